import Derived.Test.YtnnbfoejafcdlaaGreatDoorD3
set_option linter.unusedVariables false
open Go.IntKind (i64 u64 u32)
namespace Go.bF
variable {P:Program} {T:cQ} {n:Nat} {V0:View} {bw:CL} {β0:Nat->Nat} {st:St} {β:Nat->Nat} {a:Act} {w:World} {V:View}
theorem Dw {t:TypeId}{name:String}{f:FuncId}(h:Dv P t name=some f)(k:Nat)(v:Value)(w:World):(Go.method (k+1) t v name).run P w=.ok (f,v) w:=by
 unfold Dv at h
 split at h
 ·rename_i i d h1 h2
  split at h
  ·rename_i m hm
   split at h
   ·rename_i f' fs hp hf
    cases h
    have hp':m.path=#[]:=by apply Array.ext';exact hp
    simp only [Go.method,typeInfo,Sem.run_bind,run_program,Result.andThen_ok,h1,hm,Sem.run_pure,hp',follow,hf,receiverAt,ao h2,Place.get]
   ·cases h
  ·cases h
 ·cases h
theorem qJ (hT:cQ.ok P T)(hM:Mod n V0 bw β0 st β a w V){m:CM}{o:Oper}{K:St->View->Prop}{next:Act->World->Prop}{Q:Exit->Act->World->Prop}
  (hd:∀d,o.dst=some d->d<n)(hv:cM P T m o st V K)
  (hK:∀st' β' a' w' V',Mod n V0 bw β0 st' β' a' w' V'->K st' V'->next a' w'):o.wp P a w next Q:=by
 unfold cM at hv
 split at hv
 ·rename_i Ja args ts hop
  split at hv
  ·rename_i xs hxs
   obtain ⟨h1,h2⟩:=fa hM _ _ hxs
   split at hv
   ·rename_i f ss hf
    obtain ⟨hc,cY⟩:=tK (Q:=Q) hM hd hv hK
    have e1:args.map a.eval=(xs.map (SV.den β)).toArray:=by apply Array.ext';rw [Array.toList_map];exact h1
    have e2:aR β (xs++tM ss)=(xs.map (SV.den β)).toArray++(ss.map fun s=>Value.pointer (some ⟨β s,0,none⟩)).toArray:=by
     unfold aR tM
     rw [List.map_append,List.map_map]
     apply Array.ext'
     simp [Function.comp_def,SV.den,C.den]
    have hrun:(execOp a.eval o).run P w=.ok (.enter f (aR β (xs++tM ss))) w:=by
     rw [e2]
     simp only [execOp,hop,resolve,hM.eval hf,SV.den,C.den,Deferred.ofValue,pure_bind,invoke,e1,Array.empty_append]
     exact hc.run _
    unfold Oper.wp
    rw [hrun]
    exact cY
   ·exact hv.elim
  ·exact hv.elim
 ·rename_i recv name args ts hop
  split at hv
  ·rename_i xs hxs
   obtain ⟨h1,h2⟩:=fa hM _ _ hxs
   split at hv
   ·rename_i t v hf
    split at hv
    ·rename_i f Ho
     obtain ⟨hc,cY⟩:=tK (Q:=Q) hM hd hv hK
     have e1:args.map a.eval=(xs.map (SV.den β)).toArray:=by apply Array.ext';rw [Array.toList_map];exact h1
     have e2:aR β (.c (.w v)::xs)=#[v]++(xs.map (SV.den β)).toArray:=by
      unfold aR
      apply Array.ext'
      simp [SV.den,C.den]
     have hrun:(execOp a.eval o).run P w=.ok (.enter f (aR β (.c (.w v)::xs))) w:=by
      rw [e2]
      have e3:(#[Value.iface t v]++(xs.map (SV.den β)).toArray).extract 1 (#[Value.iface t v]++(xs.map (SV.den β)).toArray).size=(xs.map (SV.den β)).toArray:=by
       apply Array.ext'
       simp
       exact List.take_of_length_le (by simp)
      have e4:(#[Value.iface t v]++(xs.map (SV.den β)).toArray)[0]?=some (Value.iface t v):=by simp
      simp only [execOp,hop,resolve,hM.eval hf,SV.den,C.den,pure_bind,invoke,e1,e4,e3,callMethod,Sem.run_bind,run_program,Result.andThen_ok,Made.depth]
      rw [Dw Ho]
      exact hc.run _
     unfold Oper.wp
     rw [hrun]
     exact cY
    ·exact hv.elim
   ·exact hv.elim
  ·exact hv.elim
 ·exact BQ hT hM hd hv hK
theorem ic (hT:cQ.ok P T)(hM:Mod n V0 bw β0 st β a w V){m:CM}{h:Hint}{o:Oper}{K:St->View->Prop}{next:Act->World->Prop}{Q:Exit->Act->World->Prop}
  (hd:∀d,o.dst=some d->d<n)(hv:cB P T m h o st V K)
  (hK:∀st' β' a' w' V',Mod n V0 bw β0 st' β' a' w' V'->K st' V'->next a' w'):o.wp P a w next Q:=by
 unfold cB at hv
 split at hv
 ·exact qJ hT hM hd hv hK
 ·split at hv
  ·split at hv
   ·exact qJ hT hM hd hv hK
   ·exact hv.elim
  ·exact hv.elim
theorem Mod.refine (hM:Mod n V0 bw β0 st β a w V){g:Nat}{x y:SV}(hx:st.aw g=some x)(he:x.den β=y.den β)(hy:y.ids=[]):Mod n V0 bw β0 (st.put (some g) y) β a w V:=by
 refine ⟨hM.defers,hM.size,?_,?_,hM.wZ,hM.boxes,hM.inj,hM.oe,hM.sL,hM.ext,hM.own,hM.kU,hM.jE,hM.small⟩
 ·intro t z hz
  rw [c_] at hz
  split at hz
  ·rename_i e;simp only [Option.some.injEq] at hz;rw [e,←hz,←he];exact hM.aw g x hx
  ·exact hM.aw t z hz
 ·intro t z hz
  rw [c_] at hz
  split at hz
  ·simp only [Option.some.injEq] at hz;rw [←hz,hy];exact fun s hs=>(nomatch hs)
  ·exact hM.w_ t z hz
theorem Ek {ops:Array Oper}{tmps:Array Value}{j g:Nat}(hg:(ops[j]?).bind (·.dst)=some g):yielded ops tmps j=match tmps.getD g undef with|.bool b=>some b|_=>none:=by
 unfold yielded
 rw [hg]
 simp only [Option.bind_some]
 by_cases h:g<tmps.size
 ·have h1:tmps[g]?=some tmps[g]:=getElem?_pos tmps g h
  have h2:tmps.getD g undef=tmps[g]:=by simp [h]
  rw [h1,h2]
  generalize tmps[g]=v
  cases v<;>rfl
 ·simp [h,undef]
theorem BH (hT:cQ.ok P T)(hM:Mod n V0 bw β0 st β a w V){m:CM}{h:Hint}{ops:Array Oper}{o:Oper}{K:St->View->Prop}{next:Act->World->Prop}{Q:Exit->Act->World->Prop}
  (hd:∀d,o.dst=some d->d<n)(hv:pw P T m h ops o st V K)
  (hK:∀st' β' a' w' V',Mod n V0 bw β0 st' β' a' w' V'->K st' V'->next a' w') :
  if Region.wanted o (yielded ops a.tmps) then o.wp P a w next Q else next (a.put o.dst undef) w:=by
 unfold pw at hv
 split at hv
 ·rename_i hg
  rw [if_pos (by simp [Region.wanted,hg])]
  exact ic hT hM hd hv hK
 ·rename_i j b hg
  split at hv
  ·exact hv.elim
  ·rename_i g hdst
   have hy:=Ek (tmps:=a.tmps) hdst
   have hwant:∀c:Bool,a.tmps.getD g undef=.bool c->(Region.wanted o (yielded ops a.tmps)=true↔c=b):=by
    intro c hc
    simp only [Region.wanted,hg]
    rw [hy,hc]
    simp
   have skip:∀{st2:St},Mod n V0 bw β0 st2 β a w V->K (st2.put o.dst iF) V->next (a.put o.dst undef) w:=by
    intro st2 hM2 hK2
    exact hK _ _ _ _ _ (hM2.DC hd rfl (bL rfl)) hK2
   split at hv
   ·rename_i hs
    have hval:=hM.aw g _ hs
    split at hv
    ·rw [if_pos ((hwant true hval).2 rfl)];exact ic hT hM hd hv hK
    ·rw [if_neg (fun h=>by have:=(hwant true hval).1 h;cases this)];exact skip hM hv
   ·rename_i hs
    have hval:=hM.aw g _ hs
    split at hv
    ·rw [if_neg (fun h=>by have:=(hwant false hval).1 h;cases this)];exact skip hM hv
    ·rw [if_pos ((hwant false hval).2 rfl)];exact ic hT hM hd hv hK
   ·rename_i c hs
    have hval:=hM.aw g _ hs
    have ht:c=true->Mod n V0 bw β0 (st.put (some g) (.c .tt)) β a w V:=fun e=>hM.refine hs (by rw [e];rfl) rfl
    have hf:c=false->Mod n V0 bw β0 (st.put (some g) (.c .ff)) β a w V:=fun e=>hM.refine hs (by rw [e];rfl) rfl
    split at hv
    ·cases c with
     | true=>rw [if_pos ((hwant true hval).2 rfl)];exact ic hT (ht rfl) hd (hv.1 rfl) hK
     | false=>rw [if_neg (fun h=>by have:=(hwant false hval).1 h;cases this)];exact skip (hf rfl) (hv.2 rfl)
    ·cases c with
     | true=>rw [if_neg (fun h=>by have:=(hwant true hval).1 h;cases this)];exact skip (ht rfl) (hv.1 rfl)
     | false=>rw [if_pos ((hwant false hval).2 rfl)];exact ic hT (hf rfl) hd (hv.2 rfl) hK
   ·rename_i xs hs
    have hval:=hM.aw g _ hs
    have:Region.wanted o (yielded ops a.tmps)=false:=by
     simp only [Region.wanted,hg]
     rw [hy,hval]
     simp [SV.den]
    rw [if_neg (by rw [this];simp)]
    exact skip hM hv
   ·exact hv.elim
theorem yd (hT:cQ.ok P T){m:Nat->CM}{hint:Nat->Hint}{ops:Array Oper}(hd:∀(i:Nat)(o:Oper),ops[i]?=some o->∀d,o.dst=some d->d<n){Q:Exit->Act->World->Prop}{K:St->View->Prop}
  (hK:∀st' β' a' w' V',Mod n V0 bw β0 st' β' a' w' V'->K st' V'->Q .normal a' w') :
  ∀(l:List Nat)(st:St)(β:Nat->Nat)(a:Act)(w:World)(V:View),Mod n V0 bw β0 st β a w V->I1 P T m hint ops l st V K->wpOps P ops Q l a w
 | [],st,β,a,w,V,hM,hv=>hK _ _ _ _ _ hM hv
 | i::r,st,β,a,w,V,hM,hv=>by
  simp only [I1] at hv
  simp only [wpOps]
  split at hv
  ·rename_i o ho
   rw [ho]
   dsimp only
   have:=BH (Q:=Q) (next:=wpOps P ops Q r) hT hM (hd i o ho) hv (fun st' β' a' w' V' hM' uf=>yd hT hd hK r st' β' a' w' V' hM' uf)
   split at this
   ·rename_i hw;rw [if_pos hw];exact .inl this
   ·rename_i hw;rw [if_neg hw];exact this
  ·exact hv.elim
end Go.bF
namespace Go.bF
def ov (p:Nat->Option SV)(q:Nat->Option aP)(st:St):St:=
 ⟨fun t=>match p t with|some x=>some x|none=>st.aw t,fun t=>match q t with|some x=>some x|none=>st.boxes t⟩
theorem di {a b:Nat}(h:a≠b):Nat.beq a b=false:=by
 cases hb:Nat.beq a b
 ·rfl
 ·exact absurd (beq_eq.1 hb) h
section
variable {p:Nat->Option SV} {q:Nat->Option aP} {st:St}
theorem jt {d:Option Nat}{x:SV}(h:∀k,d=some k->p k=none):(ov p q st).put d x=ov p q (st.put d x):=by
 cases d with
 | none=>rfl
 | some d=>
  have hd:=h d rfl
  simp only [ov,St.put]
  congr 1
  funext t
  by_cases e:t=d
  ·subst e;simp [hd,Nat.beq_refl]
  ·simp [di e]
theorem ky {s:Nat}{b:aP}(h:q s=none):(ov p q st).box s b=ov p q (st.box s b):=by
 simp only [ov,St.box]
 congr 1
 funext t
 by_cases e:t=s
 ·subst e;simp [h,Nat.beq_refl]
 ·simp [di e]
theorem cx {s:Nat}(h:q s=none):(ov p q st).boxes s=st.boxes s:=by simp [ov,h]
theorem J0 {x:Operand}(h:∀t,x=.tmp t->p t=none):(ov p q st).aW x=st.aW x:=by
 cases x with
 | tmp t=>simp [St.aW,ov,h t rfl]
 | _=>rfl
def one {α:Type}(d:Option Nat)(x:α):Nat->Option α:=fun t=>match d with|some k=>cond (Nat.beq t k) (some x) none|none=>none
theorem dA {α:Type}{d:Option Nat}{x:α}{t:Nat}(h:d≠some t):one d x t=none:=by
 cases d with
 | none=>rfl
 | some k=>simp [one,di (fun e:t=k=>h (by rw [e]))]
theorem eo (d:Option Nat)(x:SV):st.put d x=ov (one d x) (fun _=>none) st:=by
 cases d with
 | none=>rfl
 | some d=>
  simp only [ov,St.put,one]
  congr 1
  funext t
  by_cases e:t=d
  ·subst e;simp [Nat.beq_refl]
  ·simp [di e]
theorem CU (s:Nat)(b:aP):st.box s b=ov (fun _=>none) (one (some s) b) st:=by
 simp only [ov,St.box,one]
 congr 1
 funext t
 by_cases e:t=s
 ·subst e;simp [Nat.beq_refl]
 ·simp [di e]
theorem xu (s:Nat)(b:aP)(d:Option Nat)(x:SV):(st.box s b).put d x=ov (one d x) (one (some s) b) st:=by
 rw [eo,CU];rfl
end
theorem dN {ρ ρ':Operand->Option SV}:∀l:List Operand,(∀x∈l,ρ x=ρ' x)->bQ ρ l=bQ ρ' l
 | [],_=>rfl
 | o::r,h=>by simp only [bQ];rw [h o (by simp),dN r fun x hx=>h x (by simp [hx])]
theorem ju {ρ ρ':Operand->Option SV}:∀l:List (Nat×Operand),(∀x∈l.map (·.2),ρ x=ρ' x)->partsOf ρ l=partsOf ρ' l
 | [],_=>rfl
 | (i,o)::r,h=>by simp only [partsOf];rw [h o (by simp),ju r fun x hx=>h x (by simp only [List.map_cons,List.mem_cons];exact .inr hx)]
theorem nG {ρ ρ':Operand->Option SV}:∀l:Option Operand,(∀x,l=some x->ρ x=ρ' x)->zG ρ l=zG ρ' l
 | none,_=>rfl
 | some o,h=>by simp only [zG];rw [h o rfl]
theorem lE {T:cQ}{ρ ρ':Operand->Option SV}{bx:Nat->Option aP}{op:Op}(h:∀x∈op.operands.toList,ρ x=ρ' x):aI T ρ bx op=aI T ρ' bx op:=by
 cases op with
 | move x=>simp only [aI];rw [h x (by simp [Op.operands])]
 | assign x=>simp only [aI];rw [h x (by simp [Op.operands])]
 | pick c a b=>simp only [aI];rw [h c (by simp [Op.operands]),h a (by simp [Op.operands]),h b (by simp [Op.operands])]
 | box t x=>simp only [aI];rw [h x (by simp [Op.operands])]
 | build t ps=>simp only [aI];rw [ju _ fun x hx=>h x (by simpa [Op.operands] using hx)]
 | buildSlice t n ps=>simp only [aI];rw [ju _ fun x hx=>h x (by simpa [Op.operands] using hx)]
 | load t a=>simp only [aI];rw [h a (by simp [Op.operands])]
 | store t a x=>simp only [aI];rw [h a (by simp [Op.operands]),h x (by simp [Op.operands])]
 | nilCheck x=>simp only [aI];rw [h x (by simp [Op.operands])]
 | binOp o xt x y yt=>simp only [aI];rw [h x (by simp [Op.operands]),h y (by simp [Op.operands])]
 | unOp o xt x=>cases o<;>simp only [aI]<;>rw [h x (by simp [Op.operands])]
 | convert s d x=>simp only [aI];rw [h x (by simp [Op.operands])]
 | makeFunc fn first caps=>
  cases fn with
  | func f=>simp only [aI];rw [dN _ fun x hx=>h x (by simp [Op.operands];exact .inr (by simpa using hx))]
  | _=>rfl
 | makeSlice t a b=>simp only [aI];rw [h a (by simp [Op.operands]),h b (by simp [Op.operands])]
 | slice t x lo hi mx=>
  simp only [aI]
  rw [h x (by simp [Op.operands]),nG lo fun y hy=>h y (by simp [Op.operands,hy]),nG hi fun y hy=>h y (by simp [Op.operands,hy]),nG mx fun y hy=>h y (by simp [Op.operands,hy])]
 | fieldAddr t x f=>simp only [aI];rw [h x (by simp [Op.operands])]
 | field t x f=>simp only [aI];rw [h x (by simp [Op.operands])]
 | indexAddr t x i=>simp only [aI];rw [h x (by simp [Op.operands]),h i (by simp [Op.operands])]
 | extract x j=>simp only [aI];rw [h x (by simp [Op.operands])]
 | index t x i=>simp only [aI];rw [h x (by simp [Op.operands]),h i (by simp [Op.operands])]
 | makeInterface t x=>simp only [aI];rw [h x (by simp [Op.operands])]
 | call c=>
  obtain ⟨Eu,args,ts⟩:=c
  cases Eu with
  | builtin b=>
   have e:bQ ρ args.toList=bQ ρ' args.toList:=dN _ fun x hx=>h x (by simpa [Op.operands,Call.operands] using hx)
   cases b<;>simp only [aI]<;>rw [e]
  | _=>rfl
 | _=>rfl
theorem Is {T:cQ}{LF RF:List Nat}{ρ:Operand->Option SV}{bx bx':Nat->Option aP}{op:Op}(h:aY LF RF op=.pure\/aY LF RF op=.alloc):aI T ρ bx op=aI T ρ bx' op:=by
 cases op with
 | load t a=>rcases h with h|h<;>cases h
 | store t a x=>rcases h with h|h<;>cases h
 | unOp o xt x=>cases o<;>rfl
 | makeFunc fn first caps=>cases fn<;>rfl
 | call c=>
  obtain ⟨Eu,args,ts⟩:=c
  cases Eu with
  | builtin b=>cases b<;>first|rfl|(rcases h with h|h<;>cases h)
  | _=>rfl
 | _=>rfl
theorem Iu {bx bx':Nat->Option aP}{i:TI}{x:SV}(h:∀s∈x.ids,bx' s=bx s):iD bx i x=iD bx' i x:=by
 unfold iD
 split
 ·rename_i b o
  rw [h b (by simp [SV.ids,C.ids])]
 ·rfl
 ·rfl
theorem F6 {bx bx':Nat->Option aP}{i:TI}{x y:SV}(h:∀s∈x.ids,bx' s=bx s):fT bx i x y=fT bx' i x y:=by
 unfold fT
 split
 ·rename_i b o
  rw [h b (by simp [SV.ids,C.ids])]
 ·rfl
theorem DJ {bx:Nat->Option aP}{i:TI}{x y:SV}{sc:List Prop}{s:Nat}{b:aP}(h:fT bx i x y=.rK sc s b):s∈x.ids:=by
 unfold fT at h
 split at h
 ·split at h
  ·split at h
   ·split at h
    ·cases h;simp [SV.ids,C.ids]
    ·cases h
   ·split at h
    ·cases h;simp [SV.ids,C.ids]
    ·cases h
   ·split at h
    ·cases h
    ·split at h
     ·cases h;simp [SV.ids,C.ids]
     ·cases h
   ·cases h
  ·cases h
 ·cases h
theorem zN {V:View}{p:Addr}:∀(cs:List C) (i:Nat) {k:Prop},V.J7 p i cs k↔V.J7 p i cs True/\k
 | [],_,k=>by simp [View.J7]
 | c::r,i,k=>by
  simp only [View.J7]
  rw [zN r (i+1),and_assoc]
theorem Iw {V V':View}(h:V.Le V'){p:Addr}:∀(cs:List C) (i:Nat) {k:Prop},V.J7 p i cs k->V'.J7 p i cs k
 | [],_,_,hk=>hk
 | c::r,i,_,hk=>⟨h.at hk.1,Iw h r (i+1) hk.2⟩
theorem oV {V:View}{p:OA}{x:SV}{k:Prop}:V.Jc p x k↔V.Jc p x True/\k:=by
 cases x with
 | c c=>simp [View.Jc]
 | agg cs=>
  simp only [View.Jc]
  constructor
  ·rintro ⟨a,h1,h2⟩;rw [zN] at h2;exact ⟨⟨a,h1,h2.1⟩,h2.2⟩
  ·rintro ⟨⟨a,h1,h2⟩,hk⟩;exact ⟨a,h1,by rw [zN];exact ⟨h2,hk⟩⟩
 | oc xs=>simp [View.Jc]
theorem Md {V V':View}(h:V.Le V'){p:OA}{x:SV}{k:Prop}(hk:V.Jc p x k):V'.Jc p x k:=by
 cases x with
 | c c=>obtain ⟨⟨a,h1,h2⟩,h3⟩:=hk;exact ⟨⟨a,h1,h.at h2⟩,h3⟩
 | agg cs=>obtain ⟨a,h1,h2⟩:=hk;exact ⟨a,h1,Iw h _ _ h2⟩
 | oc xs=>exact hk
theorem vN.split:∀(s:vN) {F:C->Prop},s.ex F->∃x,F x/\∀G:C->Prop,G x->s.ex G
 | .int _,_,⟨_,h⟩=>⟨_,h,fun _ g=>⟨_,g⟩⟩
 | .bool,_,⟨_,h⟩=>⟨_,h,fun _ g=>⟨_,g⟩⟩
 | .slice,_,⟨_,_,_,h⟩=>⟨_,h,fun _ g=>⟨_,_,_,g⟩⟩
 | .ptr,_,⟨_,h⟩=>⟨_,h,fun _ g=>⟨_,g⟩⟩
 | .str,_,⟨_,h⟩=>⟨_,h,fun _ g=>⟨_,g⟩⟩
 | .any,_,⟨_,h⟩=>⟨_,h,fun _ g=>⟨_,g⟩⟩
theorem mg:∀(l:List vN) {F:List C->Prop},Lp l F->∃x,F x/\∀G:List C->Prop,G x->Lp l G
 | [],_,h=>⟨_,h,fun _ g=>g⟩
 | s::r,_,h=>by
  obtain ⟨c,h1,h2⟩:=vN.split s h
  obtain ⟨cs,h3,h4⟩:=mg r h1
  exact ⟨c::cs,h3,fun G g=>h2 _ (h4 _ g)⟩
theorem sX.split:∀(s:sX) {F:SV->Prop},s.ex F->∃x,F x/\∀G:SV->Prop,G x->s.ex G
 | .one s,_,h=>by obtain ⟨c,h1,h2⟩:=vN.split s h;exact ⟨.c c,h1,fun G g=>h2 _ g⟩
 | .agg l,_,h=>by obtain ⟨c,h1,h2⟩:=mg l h;exact ⟨.agg c,h1,fun G g=>h2 _ g⟩
theorem pY:∀(l:List sX) {F:List (Bool×List C)->Prop},MA l F->∃x,F x/\∀G:List (Bool×List C)->Prop,G x->MA l G
 | [],_,h=>⟨_,h,fun _ g=>g⟩
 | .one s::r,_,h=>by
  obtain ⟨c,h1,h2⟩:=vN.split s h
  obtain ⟨cs,h3,h4⟩:=pY r h1
  exact ⟨_,h3,fun G g=>h2 _ (h4 _ g)⟩
 | .agg l::r,_,h=>by
  obtain ⟨c,h1,h2⟩:=mg l h
  obtain ⟨cs,h3,h4⟩:=pY r h1
  exact ⟨_,h3,fun G g=>h2 _ (h4 _ g)⟩
theorem Sh.split:∀(s:Sh) {F:SV->Prop},s.ex F->∃x,F x/\∀G:SV->Prop,G x->s.ex G
 | .val s,_,h=>sX.split s h
 | .oc l,_,h=>by obtain ⟨x,h1,h2⟩:=pY l h;exact ⟨_,h1,fun G g=>h2 _ g⟩
 | .none,_,h=>⟨_,h,fun _ g=>g⟩
theorem Sh.mono {s:Sh}{F G:SV->Prop}(h:s.ex F)(k:∀x,F x->G x):s.ex G:=by
 obtain ⟨x,h1,h2⟩:=s.split h
 exact h2 G (k x h1)
theorem uY {l m:List Nat}:IU l m=true↔∀x∈l,x∈m:=by
 simp only [IU,List.all_eq_true,bZ]
theorem uy {op:Op}{x:Operand}(h:x∈op.operands.toList){t:Nat}(e:x=.tmp t):t∈gI op:=by
 subst e
 exact List.mem_filterMap.2 ⟨_,h,rfl⟩
theorem mj {st st2:St}{op:Op}(h:∀t∈gI op,st2.aw t=st.aw t){x:Operand}(hx:x∈op.operands.toList):st2.aW x=st.aW x:=by
 cases x with
 | tmp t=>exact h t (uy hx rfl)
 | _=>rfl
theorem ux {op:Op}{x:Operand}(h:x∈gH op):x∈op.operands.toList:=by
 unfold gH at h
 split at h
 ·simpa [Op.operands] using h
 ·simp at h;subst h;simp [Op.operands]
 ·simp only [Op.operands,Call.operands]
  simp at h ⊢
  rcases h with h|h
  ·exact .inr h
  ·exact .inl h
 ·simpa [Op.operands,Call.operands] using h
 ·cases h
theorem qm {ρ:Operand->Option SV}:∀{l:List Operand} {xs:List SV},bQ ρ l=some xs->∀x∈l,∃v,ρ x=some v/\v∈xs
 | [],_,_,_,hx=>nomatch hx
 | o::r,xs,h,x,hx=>by
  simp only [bQ] at h
  split at h
  ·rename_i v l h1 h2
   cases h
   rcases List.mem_cons.1 hx with e|hx
   ·exact ⟨v,by rw [e];exact h1,by simp⟩
   ·obtain ⟨u,hu,hm⟩:=qm h2 x hx
    exact ⟨u,hu,by simp [hm]⟩
  ·cases h
structure Outcome (P:Program) (T:cQ) (m:CM) (h:Hint) (o:Oper) (st:St) (V:View) (R W:List Nat) (K:St->View->Prop) (p:Nat->Option SV) (q:Nat->Option aP):Prop where
 pd:∀t,t∉dJ o->p t=none
 qd:∀s,s∉W->q s=none
 next:K (ov p q st) V
 again:∀(st2:St)(V2:View)(K2:St->View->Prop),V.Le V2->(∀t∈gI o.op,st2.aw t=st.aw t)->(∀s∈R,st2.boxes s=st.boxes s)->K2 (ov p q st2) V2->cB P T m h o st2 V2 K2
variable {P:Program} {T:cQ} {LF RF:List Nat} {m:CM}
theorem zt {o:Oper}{t:Nat}(h:t∉dJ o):o.dst≠some t:=by
 intro e;apply h;simp [dJ,e]
theorem Kn {o:Oper}{st:St}{V:View}{K:St->View->Prop}{R W:List Nat}{Q0:Q}
  (hnew:∀sc b x,Q0=.new sc b x->dJ o=W/\dJ o=R)(Q9:∀sc s b,Q0=.rK sc s b->s∈W)(happ:cW Q0≠6)
  (hv:rL Q0 o.dst st V K) :
  ∃p q,(∀t,t∉dJ o->p t=none)/\(∀s,s∉W->q s=none)/\K (ov p q st) V /\
   ∀(st2:St)(V2:View)(K2:St->View->Prop),V.Le V2->(∀s∈R,st2.boxes s=st.boxes s)->K2 (ov p q st2) V2->rL Q0 o.dst st2 V2 K2:=by
 cases Q0 with
 | fail=>exact hv.elim
 | ret sc x=>
  obtain ⟨h1,h2⟩:=(du sc _).1 hv
  refine ⟨one o.dst x,fun _=>none,fun t ht=>dA (zt ht),fun _ _=>rfl,by rw [←eo];exact h2,?_⟩
  intro st2 V2 K2 _ _ hK
  exact (du sc _).2 ⟨h1,by rw [eo];exact hK⟩
 | new sc b x=>
  obtain ⟨e1,e2⟩:=hnew _ _ _ rfl
  simp only [rL] at hv ⊢
  cases hd:o.dst with
  | none=>rw [hd] at hv;exact hv.elim
  | some d=>
   have hdl:dJ o=[d]:=by simp [dJ,hd]
   rw [hd] at hv
   dsimp only at hv ⊢
   split at hv
   ·rename_i hn
    obtain ⟨h1,h2⟩:=(du sc _).1 hv
    refine ⟨one (some d) (x d),one (some d) b,fun t ht=>dA (by intro e;apply ht;rw [hdl];simpa using e.symm),fun s hs=>dA (by intro e;apply hs;rw [←e1,hdl];simpa using e.symm),by rw [←xu];exact h2,?_⟩
    intro st2 V2 K2 _ hR hK
    rw [hR d (by rw [←e2,hdl];simp),hn]
    exact (du sc _).2 ⟨h1,by rw [xu];exact hK⟩
   ·exact hv.elim
 | rK sc s b=>
  simp only [rL] at hv ⊢
  cases hd:o.dst with
  | some d=>rw [hd] at hv;exact hv.elim
  | none=>
   rw [hd] at hv
   dsimp only at hv ⊢
   obtain ⟨h1,h2⟩:=(du sc _).1 hv
   refine ⟨fun _=>none,one (some s) b,fun _ _=>rfl,fun t ht=>dA (by intro e;apply ht;have:=Q9 _ _ _ rfl;simp at e;rw [←e];exact this),by rw [←CU];exact h2,?_⟩
   intro st2 V2 K2 _ _ hK
   exact (du sc _).2 ⟨h1,by rw [CU];exact hK⟩
 | rd a sh=>
  obtain ⟨x,h1,h2⟩:=sh.split hv
  obtain ⟨h3,h4⟩:=oV.1 h1
  refine ⟨one o.dst x,fun _=>none,fun t ht=>dA (zt ht),fun _ _=>rfl,by rw [←eo];exact h4,?_⟩
  intro st2 V2 K2 hle _ hK
  exact h2 _ (oV.2 ⟨Md hle h3,by rw [eo];exact hK⟩)
 | mW vs of size sh=>
  obtain ⟨x,h1,h2⟩:=sh.split hv
  refine ⟨one o.dst x,fun _=>none,fun t ht=>dA (zt ht),fun _ _=>rfl,by rw [←eo];exact h1.2,?_⟩
  intro st2 V2 K2 hle _ hK
  exact h2 _ ⟨h1.1,by rw [eo];exact hK⟩
 | app a b c d e f g i j=>exact absurd rfl happ
 | qj a b c d e f g i=>exact absurd rfl happ
theorem uN {o:Oper}(h:lF (aY LF RF o.op)=true)(st:St)(V:View)(K:St->View->Prop):cM P T m o st V K=rL (aI T st.aW st.boxes o.op) o.dst st V K:=by
 unfold cM
 split
 ·rename_i f args ts hop
  rw [hop] at h
  exfalso
  cases f with
  | func f=>
   simp only [aY] at h
   split at h
   ·split at h<;>cases h
   ·split at h
    ·cases h
    ·split at h<;>cases h
  | _=>cases h
 ·rename_i recv name args ts hop
  rw [hop] at h
  cases h
 ·rfl
theorem nJ {ρ:Operand->Option SV}{bx:Nat->Option aP}{op:Op}:cW (aI T ρ bx op)=2->aY LF RF op=.alloc:=by
 have fm:∀{q:Q} {X:Prop},cW q<=1->cW q=2->X:=by intro q X h h';omega
 unfold aI
 split
 case h_8=>
  split
  ·intro h;rcases qu (bx:=bx) with h'|h'|h'|h'<;>(rw [h'] at h;cases h)
  ·exact fm (Nat.zero_le _)
 case h_9=>
  split
  ·intro h;rcases nM (bx:=bx) with h'|h'<;>(rw [h'] at h;cases h)
  ·exact fm (Nat.zero_le _)
 case h_11=>
  split
  ·split
   ·split
    ·exact fm pj
    ·exact fm (Nat.zero_le _)
   ·exact fm pj
  ·exact fm (Nat.zero_le _)
 case h_17=>exact fun _=>rfl
 case h_18=>
  split
  ·split
   ·split
    ·exact fm uZ
    ·exact fm (Nat.zero_le _)
   ·exact fm (Nat.zero_le _)
  ·exact fm (Nat.zero_le _)
 case h_21=>
  split
  ·exact fm lQ
  ·exact fm (Nat.zero_le _)
 case h_23 c=>
  split
  ·intro h
   exfalso
   split at h<;>(try split at h)<;>(try split at h)<;>(try split at h)<;>first|(rcases lP (bx:=bx) with h'|h'<;>(rw [h'] at h;cases h))|cases h
  ·split
   ·intro h;rcases nL (T:=T) (bx:=bx) with h'|h'<;>(rw [h'] at h;cases h)
   ·exact fm (Nat.zero_le _)
  ·split
   ·split
    ·exact fm pk
    ·exact fm (Nat.zero_le _)
   ·exact fm (Nat.zero_le _)
  ·exact fm (Nat.zero_le _)
 all_goals
  first
  | exact fun _=>rfl
  | exact fm (Nat.zero_le _)
  | ((repeat' split)<;>first|exact fm (Nat.zero_le _)|exact fm (Nat.le_refl _)|exact fm mY|(unfold uL;(repeat' split)<;>first|exact fm (Nat.zero_le _)|exact fm (Nat.le_refl _)))
theorem xU {st st2:St}{op:Op}(h:∀t∈gI op,st2.aw t=st.aw t):bQ st2.aW (gH op)=bQ st.aW (gH op):=
 dN _ fun _ hx=>mj h (ux hx)
theorem mq {h:Hint}{o:Oper}{st:St}{V:View}{K:St->View->Prop}{R W:List Nat}(hq:lF (aY LF RF o.op)=true)(hrw:o_ (aY LF RF o.op) h (dJ o)=some (R,W))
  (hv:cB P T m h o st V K):∃p q,Outcome P T m h o st V R W K p q:=by
 have core:(∀st2:St,(∀t∈gI o.op,st2.aw t=st.aw t)->(∀s∈R,st2.boxes s=st.boxes s)->aI T st2.aW st2.boxes o.op=aI T st.aW st.boxes o.op) ->
   (∀sc b x,aI T st.aW st.boxes o.op=.new sc b x->dJ o=W/\dJ o=R)->(∀sc s b,aI T st.aW st.boxes o.op=.rK sc s b->s∈W) ->
   (∀(st2:St)(V2:View)(K2:St->View->Prop),(∀t∈gI o.op,st2.aw t=st.aw t)->cM P T m o st2 V2 K2->cB P T m h o st2 V2 K2) ->
   cM P T m o st V K->∃p q,Outcome P T m h o st V R W K p q:=by
  intro he hn hu hb hv
  rw [uN hq] at hv
  obtain ⟨p,q,h1,h2,h3,h4⟩:=Kn (R:=R) (W:=W) hn hu (fun hQ=>by
   obtain ⟨cl,hop,oL⟩:=(fc (T:=T) (ρ:=st.aW) (bx:=st.boxes) (op:=o.op)).2.2 hQ
   rw [hop] at hq
   obtain ⟨Eu,args,ts⟩:=cl
   dsimp only at oL
   subst oL
   cases hq) hv
  refine ⟨p,q,h1,h2,h3,fun st2 V2 K2 hle hsl hbx hK=>?_⟩
  refine hb st2 V2 K2 hsl ?_
  rw [uN hq,he st2 hsl hbx]
  exact h4 st2 V2 K2 hle hbx hK
 have zI:aY LF RF o.op=.pure\/aY LF RF o.op=.alloc->h=.free->(aY LF RF o.op=.alloc->R=dJ o/\W=dJ o)->∃p q,Outcome P T m h o st V R W K p q:=by
  intro hc hf hd
  subst hf
  refine core (fun st2 hs _=>?_) (fun sc b x hQ=>?_) (fun sc s b hQ=>?_) (fun _ _ _ _ hb=>hb) hv
  ·rw [Is (bx':=st.boxes) hc]
   exact lE fun x hx=>mj hs hx
  ·have:=hd (nJ (by rw [hQ];rfl));exact ⟨this.2.symm,this.1.symm⟩
  ·rcases (fc (T:=T) (ρ:=st.aW) (bx:=st.boxes) (op:=o.op)).1 (by rw [hQ];rfl) with ⟨t,y,x,hop⟩|⟨⟨Eu,args,ts⟩,hop,oL⟩
   ·rw [hop] at hc
    rcases hc with hc|hc<;>cases hc
   ·dsimp only at oL
    subst oL
    rw [hop] at hc
    rcases hc with hc|hc<;>cases hc
 generalize hc:aY LF RF o.op=c at hrw hq zI
 cases c with
 | pure=>
  cases h with
  | free=>exact zI (.inl rfl) rfl (fun e=>by cases e)
  | own l=>cases hrw
 | alloc=>
  cases h with
  | free=>
   simp only [o_,Option.some.injEq,Prod.mk.injEq] at hrw
   exact zI (.inr rfl) rfl (fun _=>⟨hrw.1.symm,hrw.2.symm⟩)
  | own l=>cases hrw
 | load=>
  cases h with
  | free=>cases hrw
  | own l=>
   simp only [o_,Option.some.injEq,Prod.mk.injEq] at hrw
   obtain ⟨rfl,rfl⟩:=hrw
   have hop:∃t a,o.op=.load t a:=by
    generalize o.op=op at hc
    cases op with
    | load t a=>exact ⟨t,a,rfl⟩
    | call c=>obtain ⟨Eu,args,ts⟩:=c;cases Eu with
     | builtin b=>cases b<;>cases hc
     | value f=>cases f with
      | func f=>simp only [aY] at hc;split at hc<;>(try split at hc)<;>(try split at hc)<;>(try split at hc)<;>cases hc
      | _=>cases hc
     | _=>cases hc
    | _=>cases hc
   obtain ⟨t,a,hop⟩:=hop
   unfold cB at hv
   dsimp only at hv
   split at hv
   ·rename_i xs hxs
    split at hv
    ·rename_i hsub
     have fj:∀v,st.aW a=some v->∀s∈v.ids,s∈l:=by
      intro v uf s hs
      rw [uY] at hsub
      apply hsub
      rw [hop] at hxs
      obtain ⟨u,hu,hm⟩:=qm hxs a (by simp [gH])
      rw [hop]
      simp only [dY]
      rw [uf] at hu
      cases hu
      exact List.mem_flatMap.2 ⟨_,hm,hs⟩
     refine core (fun st2 hs hb=>?_) (fun sc b x hQ=>?_) (fun sc s b hQ=>?_) (fun st2 V2 K2 hs hb=>?_) hv
     ·rw [hop] at hs ⊢
      rw [lE (ρ':=st.aW) fun x hx=>mj hs hx]
      simp only [aI]
      split
      ·rename_i i v hi Gs
       exact (Iu fun s hs'=>hb s (fj v Gs s hs')).symm
      ·rfl
     ·have:=nJ (LF:=LF) (RF:=RF) (op:=o.op) (T:=T) (ρ:=st.aW) (bx:=st.boxes) (by rw [hQ];rfl)
      rw [hop] at this;cases this
     ·rcases (fc (T:=T) (ρ:=st.aW) (bx:=st.boxes) (op:=o.op)).1 (by rw [hQ];rfl) with ⟨t,y,x,hop'⟩|⟨c,hop',-⟩<;>(rw [hop] at hop';cases hop')
     ·unfold cB
      dsimp only
      rw [xU hs,hxs]
      dsimp only
      have:dY st2.boxes o.op (xs.flatMap SV.ids)=dY st.boxes o.op (xs.flatMap SV.ids):=by rw [hop];rfl
      rw [this,hsub]
      exact hb
    ·exact hv.elim
   ·exact hv.elim
 | store=>
  cases h with
  | free=>cases hrw
  | own l=>
   simp only [o_,Option.some.injEq,Prod.mk.injEq] at hrw
   obtain ⟨rfl,rfl⟩:=hrw
   have hop:∃t a x,o.op=.store t a x:=by
    generalize o.op=op at hc
    cases op with
    | store t a x=>exact ⟨t,a,x,rfl⟩
    | call c=>obtain ⟨Eu,args,ts⟩:=c;cases Eu with
     | builtin b=>cases b<;>cases hc
     | value f=>cases f with
      | func f=>simp only [aY] at hc;split at hc<;>(try split at hc)<;>(try split at hc)<;>(try split at hc)<;>cases hc
      | _=>cases hc
     | _=>cases hc
    | _=>cases hc
   obtain ⟨t,a,y,hop⟩:=hop
   unfold cB at hv
   dsimp only at hv
   split at hv
   ·rename_i xs hxs
    split at hv
    ·rename_i hsub
     have fj:∀v,st.aW a=some v->∀s∈v.ids,s∈l:=by
      intro v uf s hs
      rw [uY] at hsub
      apply hsub
      rw [hop] at hxs
      obtain ⟨u,hu,hm⟩:=qm hxs a (by simp [gH])
      rw [hop]
      simp only [dY]
      rw [uf] at hu
      cases hu
      exact List.mem_flatMap.2 ⟨_,hm,hs⟩
     refine core (fun st2 hs hb=>?_) (fun sc b x hQ=>?_) (fun sc s b hQ=>?_) (fun st2 V2 K2 hs hb=>?_) hv
     ·rw [hop] at hs ⊢
      rw [lE (ρ':=st.aW) fun x hx=>mj hs hx]
      simp only [aI]
      split
      ·rename_i i v w hi Gs hw
       exact (F6 fun s hs'=>hb s (fj v Gs s hs')).symm
      ·rfl
     ·have:=nJ (LF:=LF) (RF:=RF) (op:=o.op) (T:=T) (ρ:=st.aW) (bx:=st.boxes) (by rw [hQ];rfl)
      rw [hop] at this;cases this
     ·rw [hop] at hQ
      simp only [aI] at hQ
      split at hQ
      ·rename_i i v w hi Gs hw
       exact fj v Gs s (DJ hQ)
      ·cases hQ
     ·unfold cB
      dsimp only
      rw [xU hs,hxs]
      dsimp only
      have:dY st2.boxes o.op (xs.flatMap SV.ids)=dY st.boxes o.op (xs.flatMap SV.ids):=by rw [hop];rfl
      rw [this,hsub]
      exact hb
    ·exact hv.elim
   ·exact hv.elim
 | _=>cases hq
end Go.bF
namespace Go.bF
variable {P:Program} {T:cQ} {LF RF:List Nat} {m:CM}
def Good (p:Nat->Option SV)(q:Nat->Option aP)(W D:List Nat)(st:St)(V:View)(K:St->View->Prop):St->View->Prop:=
 fun st2 V2=>V.Le V2/\(∀t,t∉D->st2.aw t=st.aw t)/\(∀s,s∉W->st2.boxes s=st.boxes s)/\K (ov p q st2) V2
theorem ot {bx bx':Nat->Option aP}:∀{l:List Nat},(∀s∈l,bx' s=bx s)->l.flatMap (j_ bx')=l.flatMap (j_ bx)
 | [],_=>rfl
 | s::r,h=>by
  simp only [List.flatMap_cons]
  rw [ot fun s hs=>h s (by simp [hs])]
  simp only [j_]
  rw [h s (by simp)]
theorem lG {bx bx':Nat->Option aP}:∀(n:Nat)(l:List Nat),(∀s∈reach bx n l,bx' s=bx s)->reach bx' n l=reach bx n l
 | 0,_,_=>rfl
 | n+1,l,h=>by
  have hl:∀s∈l,bx' s=bx s:=fun s hs=>h s (dZ (n+1) l s hs)
  simp only [reach] at h ⊢
  rw [ot hl]
  exact lG n _ h
theorem we {bx bx':Nat->Option aP}{l:List Nat}(h:∀s∈l,bx' s=bx s):fZ bx' l=fZ bx l:=by
 unfold fZ
 rw [Bool.eq_iff_iff,List.all_eq_true,List.all_eq_true]
 constructor
 ·intro g s hs;have:=g s hs;simp only [j_] at this ⊢;rw [h s hs] at this;exact this
 ·intro g s hs;have:=g s hs;simp only [j_] at this ⊢;rw [h s hs];exact this
theorem hE:∀{L:List Nat} {β:Nat->Nat} {k k':(Nat->Nat)->Prop},(∀β,k β->k' β)->kS L β k->kS L β k'
 | [],_,_,_,h,g=>h _ g
 | _::_,_,_,_,h,g=>fun b=>hE h (g b)
theorem uC {bx bx':Nat->Option aP}{b:aP}{β:Nat->Nat}{s:Nat}:∀{r:List Nat} {k k':Prop},(∀t∈r,bx' t=bx t)->(k->k')->KR bx b β s r k->KR bx' b β s r k'
 | [],_,_,_,h,g=>h g
 | t::r,k,k',hb,h,g=>by
  have hr:=fun t ht=>hb t (List.mem_cons_of_mem _ ht)
  simp only [KR] at g ⊢
  rw [hb t (by simp)]
  cases hbq:Nat.beq s t with
  | true=>rw [hbq] at g;exact uC hr h g
  | false=>
   rw [hbq] at g
   simp only [cond_false] at g ⊢
   split at g
   ·exact fun hn=>uC hr h (g hn)
   ·exact g
theorem iy {bx bx':Nat->Option aP}{β:Nat->Nat}{V:View}:∀{L:List Nat} {k k':Prop},(∀s∈L,bx' s=bx s)->((∀s∈L,∃b,bx s=some b/\(b.live->V.H (β s)))->k->k')->gN bx β V L k->gN bx' β V L k'
 | [],_,_,_,h,g=>h (fun s hs=>absurd hs (by simp)) g
 | s::r,k,k',hb,h,g=>by
  have hr:=fun t ht=>hb t (List.mem_cons_of_mem _ ht)
  simp only [gN] at g ⊢
  rw [hb s (by simp)]
  split at g
  ·rename_i b hbs
   refine fun h1 h2=>iy hr (fun hf=>uC hr (fun hk=>h (fun t ht=>?_) hk)) (g h1 h2)
   rcases List.mem_cons.1 ht with rfl|ht
   ·exact ⟨b,hbs,eO.1 h2⟩
   ·exact hf t ht
  ·exact g
theorem jc {mv:Option (Nat×Nat)}:∀{cs zs:List C} {K K':List C->Prop},(∀c,K c->K' c)->kq mv cs zs K->kq mv cs zs K'
 | [],_,_,_,h,g=>h _ g
 | _::_,[],_,_,_,g=>g.elim
 | c::r,z::zr,K,K',h,g=>by
  simp only [kq] at g ⊢
  split at g
  ·split at g
   ·split at g
    ·obtain ⟨n,c,g⟩:=g
     exact ⟨n,c,jc (fun cs hk=>h _ hk) g⟩
    ·exact g.elim
   ·exact g.elim
  ·split at g
   ·obtain ⟨v,h1,h2⟩:=vN.split _ g
    rename_i hc
    rw [hc] at *
    exact h2 _ (jc (fun cs hk=>h _ hk) h1)
   ·exact jc (fun cs hk=>h _ hk) g
variable {p:Nat->Option SV} {q:Nat->Option aP}
theorem jf {mv:Option (Nat×Nat)}{β:Nat->Nat}{V:View}{W:List Nat}:∀{L:List Nat} {st:St} {k k':St->Prop},(∀s∈L,q s=none/\s∈W) ->
  (∀st',(∀t,st'.aw t=st.aw t)->(∀s,s∉W->st'.boxes s=st.boxes s)->k (ov p q st')->k' st')->dM T mv β V L (ov p q st) k->dM T mv β V L st k'
 | [],st,k,k',_,h,g=>h st (fun _=>rfl) (fun _ _=>rfl) g
 | s::r,st,k,k',hq,h,g=>by
  obtain ⟨LB,NF⟩:=hq s (by simp)
  have hr:∀s∈r,q s=none/\s∈W:=fun s hs=>hq s (by simp [hs])
  have Lq:∀b:aP,∀k1:St->Prop,(∀st',k1 st'=k st')->dM T mv β V r ((ov p q st).box s b) k1->dM T mv β V r (st.box s b) k':=by
   intro b k1 hk1 g
   rw [ky LB] at g
   refine jf hr (fun st' h1 h2 hk=>h st' h1 (fun s' hs'=>?_) (by rw [←hk1];exact hk)) g
   rw [h2 s' hs',aj,if_neg (fun e=>hs' (by rw [e];exact NF))]
  simp only [dM] at g ⊢
  rw [cx LB] at g
  split at g
  ·rename_i cs ty hb
   split at g
   ·rename_i i hi
    exact jc (fun cs' hk=>⟨hk.1,Lq _ _ (fun _=>rfl) hk.2⟩) g
   ·exact g
  ·obtain ⟨vs,h1,h2⟩:=g
   exact ⟨vs,h1,Lq _ _ (fun _=>rfl) h2⟩
  ·obtain ⟨h0,vs,h3,h1,h2⟩:=g
   exact ⟨h0,vs,h3,h1,Lq _ _ (fun _=>rfl) h2⟩
  ·exact g
theorem sN (V:View)(l:List Nat):V.Le (V.bg l):=fun _ _ h=>h
theorem EK (V:View):V.Le V.shut:=fun _ _ h=>h
theorem HM {V V' eC:View}{P:Prop}{b:Nat}(h:V.Le eC)(h':V.Le V')(hb:P->V'.w.heap.size<=b\/V'.H b):V.Le (eC.shut.iw P b):=by
 intro x o hx
 obtain ⟨h1,h2⟩:=h x o hx
 obtain ⟨h3,h4⟩:=h' x o hx
 refine ⟨fun hh=>?_,h2⟩
 rcases hh with hh|⟨hp,e,-⟩
 ·exact h1 hh
 ·subst e
  rcases hb hp with h5|h5
  ·have:=aB h4;omega
  ·exact h3 h5
theorem H0 {m:Option Nat}{d:Nat}:eG m d=d\/eG m d=d+200000:=by
 cases m with
 | none=>exact .inl rfl
 | some m=>
  simp only [eG,mC]
  cases Nat.blt m 100000 with
  | true=>exact .inl rfl
  | false=>exact .inr rfl
theorem nD {give:Bool}{sh:Sh}{L:List Nat}{mm:Option Nat}{d:Nat}{ety:TypeId}{β:Nat->Nat}{st:St}{V V' eC:View}{K K':St->View->Prop}{W D:List Nat}{r':Value}
  (hL:∀s∈L,q s=none/\s∈W)(hm:∀k,mm=some k->k∈L)(hp:p d=none/\d∈D)(hq:q (eG mm d)=none/\eG mm d∈W)(hV:V.Le V')(hV2:V.Le eC)
  (hlv:∀s∈L,∃b,st.boxes s=some b/\(b.live->V'.H (β s)))(hK:∀s2 V2,Good p q W D st V K s2 V2->K' s2 V2)
  (h:cd T give sh L mm d ety β (ov p q st) V' K r' eC):cd T give sh L mm d ety β st V' K' r' eC:=by
 unfold cd at h ⊢
 obtain ⟨b',vs',h1,h2,h3⟩:=h
 have h2':vs'≠[]->V'.w.heap.size<=b'\/vM mm st β b':=by
  intro hne
  refine (h2 hne).imp id fun h=>?_
  unfold vM at h ⊢
  cases mm with
  | none=>exact h
  | some k=>
   dsimp only at h ⊢
   rw [cx (hL k (hm k rfl)).1] at h
   exact h
 have qe:vs'≠[]->V'.w.heap.size<=b'\/V'.H b':=by
  intro hne
  refine (h2' hne).imp id fun h=>?_
  unfold vM at h
  cases mm with
  | none=>exact h.elim
  | some k=>
   dsimp only at h
   obtain ⟨b0,hb0,hHk⟩:=hlv k (hm k rfl)
   rw [hb0] at h
   obtain ⟨cs,ty⟩:=b0
   cases cs with
   | lit cs=>have h:b'=β k:=h;rw [h];exact hHk cI
   | row cs=>have h:b'=β k:=h;rw [h];exact hHk bY
   | aV vs=>have h:vs≠[]/\b'=β k:=h;rw [h.2];exact hHk (e_ h.1)
 refine ⟨b',vs',h1,h2',Sh.mono h3 fun x hx=>⟨hx.1,?_⟩⟩
 have e1:(oK mm ety (ov p q st)).box (eG mm d) ⟨.aV vs',ety⟩=ov p q ((oK mm ety st).box (eG mm d) ⟨.aV vs',ety⟩):=by
  cases mm with
  | none=>exact ky hq.1
  | some k=>
   simp only [oK]
   rw [ky (hL k (hm k rfl)).1,ky hq.1]
 have hx2:=hx.2
 rw [e1] at hx2
 have hsub:∀s∈EL mm L,q s=none/\s∈W:=by
  intro s hs
  cases mm with
  | none=>exact hL s hs
  | some k=>exact hL s (uz.1 hs).1
 refine jf hsub (fun st' g1 g2 hk=>?_) hx2
 rw [jt (fun k hk=>by cases hk;exact hp.1)] at hk
 refine hK _ _ ⟨HM hV2 hV qe,?_,?_,hk⟩
 ·intro t ht
  rw [c_,if_neg (fun e=>ht (by rw [e];exact hp.2)),g1]
  cases mm<;>rfl
 ·intro s hs
  show st'.boxes s=_
  rw [g2 s hs,aj,if_neg (fun e=>hs (by rw [e];exact hq.2))]
  cases mm with
  | none=>rfl
  | some k=>simp only [oK];rw [aj,if_neg (fun e=>hs (by rw [e];exact (hL k (hm k rfl)).2))]
theorem HU {bx:Nat->Option aP}{L:List Nat}(hcl:fZ bx L=true):∀k,k∈oT bx L->k∈L:=by
 intro k hk
 unfold oT at hk
 obtain ⟨s,hs,hk⟩:=List.mem_flatMap.1 (bH.1 hk)
 split at hk
 ·rename_i cs ty hb
  refine gg hcl hs hb k ?_
  have:∀cs:List C,k∈nE cs->k∈cs.flatMap C.ids:=by
   intro cs
   induction cs with
   | nil=>exact fun h=>nomatch h
   | cons c r ih=>
    intro h
    rw [List.flatMap_cons,List.mem_append]
    cases c<;>simp only [nE,List.mem_cons] at h<;>first
     | exact .inr (ih h)
     | (rcases h with h|h
        ·left;simp [C.ids,h]
        ·exact .inr (ih h))
  exact this cs hk
 ·cases hk
theorem tZ {xs:List SV}:∀k,k∈kt xs->k∈xs.flatMap SV.ids:=by
 intro k
 induction xs with
 | nil=>exact fun h=>nomatch h
 | cons x r ih=>
  intro h
  rw [List.flatMap_cons,List.mem_append]
  unfold kt at h
  split at h
  ·rename_i heq;cases heq
  ·rename_i s n c r' heq;cases heq;exact .inl h
  ·rename_i s n c r' heq;cases heq;exact .inl h
  ·cases h
  ·rename_i heq;cases heq;exact .inr (ih h)
theorem q_ {bx bx':Nat->Option aP}{L:List Nat}(h:∀s∈L,bx' s=bx s):oT bx' L=oT bx L:=by
 unfold oT
 congr 1
 induction L with
 | nil=>rfl
 | cons s r ih=>simp only [List.flatMap_cons];rw [h s (by simp),ih fun s hs=>h s (by simp [hs])]
theorem gU {st:St}{mm:Option Nat}{d:Nat}(h:q (eG mm d)=none):js (ov p q st) mm d=js st mm d:=by
 unfold js;rw [cx h]
theorem qX {bx bx':Nat->Option aP}{β:Nat->Nat}{N:Nat}{L:List Nat}(h:∀s∈L,bx' s=bx s):L.map (dz bx' β N)=L.map (dz bx β N):=
 List.map_congr_left fun s hs=>by unfold dz;rw [h s hs]
theorem gZ {f:FuncId}{xs:List SV}{ty:TypeId}{dst:Option Nat}{st:St}{V:View}{K:St->View->Prop}{W D:List Nat}
  (hm:m=.none\/((m=.bg\/m=.give)/\(∀s∈reach (ov p q st).boxes 3 (dedup (xs.flatMap SV.ids)),q s=none/\s∈W)/\∀k,dst=some k->∀mm,q (eG mm k)=none/\eG mm k∈W))(hd:∀k,dst=some k->p k=none/\k∈D)
  {K':St->View->Prop}(hK:∀s2 V2,Good p q W D st V K s2 V2->K' s2 V2)(hv:eP P T m f xs ty dst (ov p q st) V K):eP P T m f xs ty dst st V K':=by
 have hput:∀(st':St)(x:SV),(∀t,st'.aw t=st.aw t)->∀t,t∉D->(st'.put dst x).aw t=st.aw t:=by
  intro st' x h t ht
  cases dst with
  | none=>exact h t
  | some d=>rw [c_,if_neg (fun e=>ht (by rw [e];exact (hd d rfl).2))];exact h t
 have hbx:∀(st':St)(x:SV),(st'.put dst x).boxes=st'.boxes:=by intro st' x;cases dst<;>rfl
 unfold eP at hv ⊢
 split at hv
 ·exact hv.elim
 ·rename_i sh hsh
  have hre:∀L,reach (ov p q st).boxes 3 (dedup (xs.flatMap SV.ids))=L->(∀s∈L,q s=none)->reach st.boxes 3 (dedup (xs.flatMap SV.ids))=L:=by
   intro L hL VW
   rw [←hL]
   exact lG 3 _ fun s hs=>(cx (VW s (by rw [←hL];exact hs))).symm
  have KK:∀s∈xs.flatMap SV.ids,s∈reach (ov p q st).boxes 3 (dedup (xs.flatMap SV.ids)):=fun s hs=>dZ 3 _ s (bH.2 hs)
  generalize hr:reach (ov p q st).boxes 3 (dedup (xs.flatMap SV.ids))=L at hv hm KK
  cases L with
  | nil=>
   rw [hre _ hr (fun s hs=>nomatch hs)]
   have plain:(∀V':View,V.Le V'->ab P f (aR (fun _=>0) xs) V' fun r eC=>sh.ex fun x=>r=x.den (fun _=>0)/\K ((ov p q st).put dst x) eC) ->
     ∀V':View,V.Le V'->ab P f (aR (fun _=>0) xs) V' fun r eC=>sh.ex fun x=>r=x.den (fun _=>0)/\K' (st.put dst x) eC:=by
    intro hv V' hV'
    refine (hv V' hV').mono fun r eC hle hk=>Sh.mono hk fun x hx=>⟨hx.1,?_⟩
    have h2:=hx.2
    rw [jt (fun k hk=>(hd k hk).1)] at h2
    exact hK _ _ ⟨hV'.trans hle,hput st x fun _=>rfl,fun s _=>by rw [hbx],h2⟩
   rcases hm with rfl|⟨rfl|rfl,-,hnb⟩
   ·exact plain hv
   ·exact plain hv
   ·dsimp only at hv ⊢
    split at hv
    ·rename_i d ety hgt
     rw [gU (hnb d rfl Option.none).1] at hv
     split at hv
     ·exact hv.elim
     ·rename_i hfree
      intro V' hV'
      refine (hv V' hV').mono fun r eC hle hk=>?_
      exact nD (W:=W) (D:=D) (fun s hs=>absurd hs (by simp)) (fun k hk=>by cases hk) (hd d rfl) (hnb d rfl Option.none) hV' (hV'.trans hle) (fun s hs=>absurd hs (by simp)) hK hk
    ·exact hv.elim
  | cons s r=>
   dsimp only at hv
   split at hv
   ·exact hv.elim
   ·rename_i hcl
    have bg:m=.bg\/m=.give->(∀t∈s::r,q t=none/\t∈W)->(∀k,dst=some k->∀mm,q (eG mm k)=none/\eG mm k∈W) ->
      ∀{give:Bool} {mm:Option Nat} {d:Nat} {ety:TypeId},dst=some d->(∀k,mm=some k->k∈s::r) ->
      (∀V':View,V.Le V'->kS (s::r) (fun _=>0) fun β=>gN (ov p q st).boxes β V' (s::r) (ab P f (aR β xs) (V'.bg ((s::r).map (dz (ov p q st).boxes β V'.w.heap.size))) (cd T give sh (s::r) mm d ety β (ov p q st) V' K))) ->
      ∀V':View,V.Le V'->kS (s::r) (fun _=>0) fun β=>gN st.boxes β V' (s::r) (ab P f (aR β xs) (V'.bg ((s::r).map (dz st.boxes β V'.w.heap.size))) (cd T give sh (s::r) mm d ety β st V' K')):=by
     intro _ hmm hnb give mm d ety hdst QZ hv V' hV'
     have Bf:∀t∈s::r,st.boxes t=(ov p q st).boxes t:=fun t ht=>(cx (hmm t ht).1).symm
     refine hE (fun β hb=>?_) (hv V' hV')
     rw [qX (bx:=(ov p q st).boxes) Bf]
     refine iy (bx:=(ov p q st).boxes) Bf (fun hH hfn=>?_) hb
     refine hfn.mono fun r' eC hle hk=>?_
     have hle2:V.Le eC:=(hV'.trans (sN V' _)).trans hle
     exact nD hmm QZ (hd d hdst) (hnb d hdst mm) hV' hle2 (fun t ht=>by rw [Bf t ht];exact hH t ht) hK hk
    have base:m=.bg\/m=.give->(∀t∈s::r,q t=none/\t∈W)/\(∀k,dst=some k->∀mm,q (eG mm k)=none/\eG mm k∈W):=by
     intro h
     rcases hm with rfl|⟨-,h1,h2⟩
     ·rcases h with h|h<;>cases h
     ·exact ⟨h1,h2⟩
    have Tg:(∀t∈s::r,q t=none/\t∈W)->fZ st.boxes (s::r)=true:=fun hmm=>by
     rw [we (bx:=(ov p q st).boxes) (fun t ht=>(cx (hmm t ht).1).symm)];exact hcl
    split at hv
    ·exact hv.elim
    ·exact hv.elim
    ·
     obtain ⟨hmm,hnb⟩:=base (.inr rfl)
     rw [hre _ hr (fun t ht=>(hmm t ht).1)]
     dsimp only
     rw [Tg hmm]
     dsimp only
     have hmv:=q_ (bx:=(ov p q st).boxes) (bx':=st.boxes) (L:=s::r) (fun t ht=>(cx (hmm t ht).1).symm)
     rw [hmv]
     split at hv
     ·rename_i d ety h1 h2 h3
      rw [gU (hnb d rfl _).1] at hv
      split at hv
      ·exact hv.elim
      ·rename_i hfree
       exact bg (.inr rfl) hmm hnb rfl (fun k hk=>by cases hk) hv
     ·rename_i d ety k h1 h2 h3
      rw [gU (hnb d rfl _).1] at hv
      split at hv
      ·exact hv.elim
      ·rename_i hfree
       exact bg (.inr rfl) hmm hnb rfl (fun j hj=>by cases hj;exact KK k (tZ k (by rw [h2];simp))) hv
     ·exact hv.elim
    ·
     obtain ⟨hmm,hnb⟩:=base (.inl rfl)
     rw [hre _ hr (fun t ht=>(hmm t ht).1)]
     dsimp only
     rw [Tg hmm]
     dsimp only
     have Bf:∀t∈s::r,st.boxes t=(ov p q st).boxes t:=fun t ht=>(cx (hmm t ht).1).symm
     have hmv:=q_ (bx:=(ov p q st).boxes) (bx':=st.boxes) (L:=s::r) Bf
     rw [hmv]
     split at hv
     ·intro V' hV'
      refine hE (fun β hb=>?_) (hv V' hV')
      rw [qX (bx:=(ov p q st).boxes) Bf]
      refine iy (bx:=(ov p q st).boxes) Bf (fun _ hfn=>?_) hb
      refine hfn.mono fun r' eC hle hk=>Sh.mono hk fun x hx=>⟨hx.1,?_⟩
      refine jf hmm (fun st' h1 h2 hk=>?_) hx.2
      rw [jt (fun k hk=>(hd k hk).1)] at hk
      exact hK _ _ ⟨((hV'.trans (sN V' _)).trans hle).trans (EK _),hput st' x h1,fun t ht=>by rw [hbx];exact h2 t ht,hk⟩
     ·rename_i k hk
      have Lw:k∈s::r:=HU hcl k (by rw [hk];simp)
      have hty:jF st.boxes k=jF (ov p q st).boxes k:=by unfold jF;rw [Bf k Lw]
      rw [hty]
      split at hv
      ·rename_i d ety hbt
       rw [gU (hnb d rfl _).1] at hv
       split at hv
       ·exact hv.elim
       ·rename_i hfree
        exact bg (.inl rfl) hmm hnb rfl (fun j hj=>by cases hj;exact Lw) hv
      ·exact hv.elim
     ·exact hv.elim
    ·rcases hm with h|h
     ·cases h
     ·rcases h.1 with h|h<;>cases h
theorem BU {bx:Nat->Option aP}:∀(n:Nat) {l l':List Nat},(∀x∈l,x∈l')->∀x∈reach bx n l,x∈reach bx n l'
 | 0,_,_,h,x,hx=>h x hx
 | n+1,l,l',h,x,hx=>by
  simp only [reach] at hx ⊢
  refine BU n (fun y hy=>?_) x hx
  rw [bH,List.mem_append] at hy ⊢
  rcases hy with hy|hy
  ·exact .inl (h y hy)
  ·obtain ⟨z,hz,hy⟩:=List.mem_flatMap.1 hy
   exact .inr (List.mem_flatMap.2 ⟨z,h z hz,hy⟩)
theorem rB {f:FuncId}{xs:List SV}{ty:TypeId}{dst:Option Nat}{st:St}{V:View}{K:St->View->Prop}{W D:List Nat}
  (hm:m=.none\/((m=.bg\/m=.give)/\(∀s∈reach (ov p q st).boxes 3 (dedup (xs.flatMap SV.ids)),q s=none/\s∈W)/\∀k,dst=some k->∀mm,q (eG mm k)=none/\eG mm k∈W))(hd:∀k,dst=some k->p k=none/\k∈D)
  {K':St->View->Prop}(hK:∀s2 V2,Good p q W D st V K s2 V2->K' s2 V2)(hv:jx P T m f xs ty dst (ov p q st) V K):jx P T m f xs ty dst st V K':=by
 have hm0:=hm
 cases m with
 | bg=>
  obtain ⟨h1,h2⟩:(∀s∈reach (ov p q st).boxes 3 (dedup (xs.flatMap SV.ids)),q s=none/\s∈W)/\∀k,dst=some k->∀mm,q (eG mm k)=none/\eG mm k∈W:=by
   rcases hm with h|⟨-,h1,h2⟩
   ·cases h
   ·exact ⟨h1,h2⟩
  unfold jx at hv ⊢
  dsimp only at hv ⊢
  rw [pg (bx:=st.boxes) (bx':=(ov p q st).boxes) (fun s hs=>cx (h1 s (dZ 3 _ s (bH.2 hs))).1)] at hv
  split at hv
  ·rename_i vs c xs' e
   exact ⟨fun he=>⟨(hv.1 he).1,gZ (.inr ⟨.inl rfl,fun s hs=>h1 s (BU 3 (fun x hx=>bH.2 (uX e x (bH.1 hx))) s hs),h2⟩) hd hK (hv.1 he).2⟩,fun he=>gZ hm0 hd hK (hv.2 he)⟩
  ·exact gZ hm0 hd hK hv
 | _=>exact gZ hm0 hd hK hv
theorem zH {p2:Nat->Option SV}{q2:Nat->Option aP}{st:St}(hp:∀t,p t=none\/p2 t=none)(hq:∀t,q t=none\/q2 t=none):ov p q (ov p2 q2 st)=ov p2 q2 (ov p q st):=by
 unfold ov
 congr 1
 ·funext t
  dsimp only
  rcases hp t with h|h<;>rw [h]
 ·funext t
  dsimp only
  rcases hq t with h|h<;>rw [h]
def yJ:Q->Option Nat
 | .app old _ _ _ _ _ _ _ _=>old
 | .qj s _ _ _ _ _ _ _=>some s
 | _=>none
def ET (T:cQ)(bx:Nat->Option aP)(l:Option (List SV))(ts:List TypeId):Q:=
 match l,ts with
 | some [b,x],[t,t']=>match az T t,az T t' with
  | some i,some i'=>match i.k,i'.k with
   | .slice e,.slice _=>match az T e with
    | some ei=>bU bx e ei b x
    | none=>.fail
   | _,_=>.fail
  | _,_=>.fail
 | _,_=>.fail
def yK (bx:Nat->Option aP)(sz:Nat)(x:SV):Option (OA×Nat ⊕ List Value):=
 match x with
 | .c (.v (.slice a k _))=>some (.inl (a,k))
 | .c (.kY s o k _)=>match bx s with
  | some ⟨.row ws,_⟩=>some (.inr (ji ws o (k*sz)))
  | _=>match dU bx s with
   | some ws=>if Nat.ble (o+k*sz) ws.length then some (.inr ((ws.drop o).take (k*sz))) else none
   | none=>none
 | _=>none
def En (bx:Nat->Option aP)(e:TypeId)(ei:TI)(b:SV)(src:OA×Nat ⊕ List Value):Q:=
 match b with
 | .c (.v (.slice a n c))=>.app none a [] n c src ei.size ei.bytes e
 | .c (.kY s 0 n c)=>match dU bx s,jF bx s with
  | some vs,some ty=>if Nat.beq ty e then .app (some s) none vs n c src ei.size ei.bytes e else .fail
  | _,_=>.fail
 | .c (.jB s n c)=>match bx s with
  | some ⟨.aV vs,ty⟩=>if Nat.beq ty e then .qj s vs n c src ei.size ei.bytes e else .fail
  | _=>.fail
 | _=>.fail
theorem uK {bx:Nat->Option aP}{e:TypeId}{ei:TI}{b x:SV}:bU bx e ei b x=match jY ei.zero with
  | none=>.fail
  | some zs=>if Nat.beq ei.bytes 0||Nat.beq ei.size 0||!(Nat.beq ei.size zs.length) then .fail else match yK bx ei.size x with
   | none=>.fail
   | some src=>En bx e ei b src:=rfl
theorem Fh {bx bx':Nat->Option aP}{sz:Nat}{x:SV}:(∀s∈x.ids,bx' s=bx s)->yK bx sz x=yK bx' sz x:=by
 unfold yK
 split
 ·exact fun _=>rfl
 ·intro h;unfold dU;rw [h _ (by simp [SV.ids,C.ids])]
 ·exact fun _=>rfl
theorem GH {bx bx':Nat->Option aP}{e:TypeId}{ei:TI}{b:SV}{src:OA×Nat ⊕ List Value}:(∀s∈b.ids,bx' s=bx s)->En bx e ei b src=En bx' e ei b src:=by
 unfold En
 split
 ·exact fun _=>rfl
 ·intro h;unfold dU jF;rw [h _ (by simp [SV.ids,C.ids])]
 ·intro h;rw [h _ (by simp [SV.ids,C.ids])]
 ·exact fun _=>rfl
theorem DD {bx bx':Nat->Option aP}{e:TypeId}{ei:TI}{b x:SV}(h:∀s∈b.ids++x.ids,bx' s=bx s):bU bx e ei b x=bU bx' e ei b x:=by
 rw [uK,uK,Fh fun s hs=>h s (List.mem_append_right _ hs)]
 have:=fun src=>GH (bx:=bx) (bx':=bx') (e:=e) (ei:=ei) (b:=b) (src:=src) fun s hs=>h s (List.mem_append_left _ hs)
 simp only [this]
theorem BN {bx:Nat->Option aP}{e:TypeId}{ei:TI}{b x:SV}:∀s,yJ (bU bx e ei b x)=some s->s∈b.ids:=by
 intro s h
 unfold bU at h
 split at h
 ·cases h
 ·split at h
  ·cases h
  ·dsimp only at h
   split at h
   ·cases h
   ·split at h
    ·cases h
    ·split at h
     ·split at h
      ·cases h;simp [SV.ids,C.ids]
      ·cases h
     ·cases h
    ·split at h
     ·split at h
      ·cases h;simp [SV.ids,C.ids]
      ·cases h
     ·cases h
    ·cases h
theorem J5 {bx bx':Nat->Option aP}{ys:List SV}{ts:List TypeId}{R:List Nat}(h:∀s∈ys.flatMap SV.ids,bx' s=bx s)(hR:∀s∈ys.flatMap SV.ids,s∈R) :
  ET T bx (some ys) ts=ET T bx' (some ys) ts/\∀s,yJ (ET T bx (some ys) ts)=some s->s∈R:=by
 unfold ET
 split
 ·rename_i b x t t' hb
  cases hb
  split
  ·split
   ·split
    ·exact ⟨DD fun s hs=>h s (by simpa using hs),fun s hs=>hR s (by simp [BN s hs])⟩
    ·exact ⟨rfl,fun s hs=>nomatch hs⟩
   ·exact ⟨rfl,fun s hs=>nomatch hs⟩
  ·exact ⟨rfl,fun s hs=>nomatch hs⟩
 ·exact ⟨rfl,fun s hs=>nomatch hs⟩
theorem F0 {bx:Nat->Option aP}{e:TypeId}{ei:TI}{b x:SV}:cW (bU bx e ei b x)=6\/bU bx e ei b x=.fail:=by
 unfold bU
 split
 ·exact .inr rfl
 ·split
  ·exact .inr rfl
  ·dsimp only
   split
   ·exact .inr rfl
   ·split<;>(try split)<;>(try split)<;>first|exact .inl rfl|exact .inr rfl
theorem Ir {ρ:Operand->Option SV}{bx:Nat->Option aP}{args:Array Operand}{ts:Array TypeId}:cW (aI T ρ bx (.call ⟨.builtin .append,args,ts⟩))=6\/aI T ρ bx (.call ⟨.builtin .append,args,ts⟩)=.fail:=by
 simp only [aI]
 split
 ·split
  ·split
   ·split
    ·exact F0
    ·exact .inr rfl
   ·exact .inr rfl
  ·exact .inr rfl
 ·exact .inr rfl
theorem Ab {Q0:Q}{dst:Option Nat}{st:St}{V:View}{K K':St->View->Prop}{W D:List Nat}(ht:cW Q0=6\/Q0=.fail)
  (ho:∀s,yJ Q0=some s->q s=none/\s∈W)(hd:∀k,dst=some k->(p k=none/\k∈D)/\∀s,q (mC s k)=none/\mC s k∈W)(hd0:∀k,dst=some k->q k=none/\k∈W)
  (hK:∀s2 V2,Good p q W D st V K s2 V2->K' s2 V2)(h:rL Q0 dst (ov p q st) V K):rL Q0 dst st V K':=by
 cases Q0 with
 | qj s vs n c x size bytes ty=>
  simp only [rL] at h ⊢
  cases dst with
  | none=>exact h.elim
  | some d=>
   dsimp only at h ⊢
   obtain ⟨⟨hp,hD⟩,hn⟩:=hd d rfl
   obtain ⟨hs,NF⟩:=ho s rfl
   have core:∀k xs,qY s vs n c size bytes ty d (ov p q st) V K k xs->qY s vs n c size bytes ty d st V K' k xs:=by
    rintro k xs ⟨h1,h2,h3,h4,h5,h6⟩
    refine ⟨h1,h2,h3,h4,h5,?_⟩
    rw [cx (hn s).1] at h6
    split at h6
    ·exact h6.elim
    ·intro spare c' g1 g2
     have:=h6 spare c' g1 g2
     rw [ky hs,ky (hn s).1,jt (fun k hk=>by cases hk;exact hp)] at this
     refine hK _ _ ⟨View.Le.refl V,?_,?_,this⟩
     ·intro t ht;rw [c_,if_neg (fun e=>ht (by rw [e];exact hD))];rfl
     ·intro t ht
      show ((st.box s _).box _ _).boxes t=_
      rw [aj,if_neg (fun e=>ht (by rw [e];exact (hn s).2)),aj,if_neg (fun e=>ht (by rw [e];exact NF))]
   cases x with
   | inr xs=>exact core _ _ h
   | inl ak=>obtain ⟨xs,h1,h2,h3⟩:=h;exact ⟨xs,h1,h2,core _ _ h3⟩
 | app old ba vs n c x size bytes ty=>
  simp only [rL] at h ⊢
  cases dst with
  | none=>exact h.elim
  | some d=>
   dsimp only at h ⊢
   obtain ⟨⟨hp,hD⟩,hn⟩:=hd d rfl
   cases old with
   | some s=>
    dsimp only at h ⊢
    obtain ⟨hs,NF⟩:=ho s rfl
    have core:∀k xs,AG s vs n c size bytes ty d (ov p q st) V K k xs->AG s vs n c size bytes ty d st V K' k xs:=by
     rintro k xs ⟨h1,h2,h3,h4,h5,h6⟩
     refine ⟨h1,h2,h3,h4,h5,?_⟩
     rw [cx (hn s).1] at h6
     split at h6
     ·exact h6.elim
     ·intro b J spare c' g1 g2
      have:=h6 b J spare c' g1 g2
      rw [ky hs,ky (hn s).1,jt (fun k hk=>by cases hk;exact hp)] at this
      refine hK _ _ ⟨View.Le.refl V,?_,?_,this⟩
      ·intro t ht;rw [c_,if_neg (fun e=>ht (by rw [e];exact hD))];rfl
      ·intro t ht
       show ((st.box s _).box _ _).boxes t=_
       rw [aj,if_neg (fun e=>ht (by rw [e];exact (hn s).2)),aj,if_neg (fun e=>ht (by rw [e];exact NF))]
    cases x with
    | inr xs=>exact core _ _ h
    | inl ak=>obtain ⟨xs,h1,h2,h3⟩:=h;exact ⟨xs,h1,h2,core _ _ h3⟩
   | none=>
    dsimp only at h ⊢
    obtain ⟨q1,q2⟩:=hd0 d rfl
    obtain ⟨vs',g1,g2,g3,g4,h⟩:=h
    have core:∀k xs,AH vs' n c size bytes ty d (ov p q st) V K k xs->AH vs' n c size bytes ty d st V K' k xs:=by
     rintro k xs ⟨h1,h2,h3,h4,h5⟩
     refine ⟨h1,h2,h3,h4,?_⟩
     rw [cx q1] at h5
     split at h5
     ·exact h5.elim
     ·intro spare c' k1 k2
      have:=h5 spare c' k1 k2
      rw [ky q1,jt (fun k hk=>by cases hk;exact hp)] at this
      refine hK _ _ ⟨View.Le.refl V,?_,?_,this⟩
      ·intro t ht;rw [c_,if_neg (fun e=>ht (by rw [e];exact hD))];rfl
      ·intro t ht
       show (st.box d _).boxes t=_
       rw [aj,if_neg (fun e=>ht (by rw [e];exact q2))]
    refine ⟨vs',g1,g2,g3,g4,?_⟩
    cases x with
    | inr xs=>exact core _ _ h
    | inl ak=>
     obtain ⟨xs,h1,h2,h3,h4⟩:=h
     refine ⟨xs,h1,h2,fun e=>?_,fun e=>core _ _ (h4 e)⟩
     have:=h3 e
     rw [jt (fun k hk=>by cases hk;exact hp)] at this
     refine hK _ _ ⟨View.Le.refl V,?_,fun t ht=>rfl,this⟩
     intro t ht;rw [c_,if_neg (fun e=>ht (by rw [e];exact hD))]
 | fail=>exact h.elim
 | _=>rcases ht with ht|ht<;>cases ht
theorem pM {h:Hint}{o:Oper}{st:St}{V:View}{K:St->View->Prop}{R W:List Nat}
  (hm:lF (aY LF RF o.op)=true\/(aY LF RF o.op=.call/\m=.none)\/((aY LF RF o.op=.jO/\m=.bg)\/(aY LF RF o.op=.give/\m=.give)\/aY LF RF o.op=.app))
  (hrw:o_ (aY LF RF o.op) h (dJ o)=some (R,W))(hp:∀t,t∈gI o.op\/t∈dJ o->p t=none)(hq:∀s∈R,q s=none)
  (TO:∀s∈W,q s=none){K':St->View->Prop}(hK:∀s2 V2,Good p q W (dJ o) st V K s2 V2->K' s2 V2)(hv:cB P T m h o (ov p q st) V K):cB P T m h o st V K':=by
 have Dk:∀t∈gI o.op,st.aw t=(ov p q st).aw t:=fun t ht=>by simp [ov,hp t (.inl ht)]
 rcases hm with hm|hm
 ·obtain ⟨p2,q2,hO⟩:=mq hm hrw hv
  refine hO.again st V _ (View.Le.refl V) Dk (fun s hs=>(cx (hq s hs)).symm) ?_
  refine hK _ _ ⟨View.Le.refl V,fun t ht=>by simp [ov,hO.pd t ht],fun s hs=>by simp [ov,hO.qd s hs],?_⟩
  rw [zH]
  ·exact hO.next
  ·intro t
   by_cases h:t∈dJ o
   ·exact .inl (hp t (.inr h))
   ·exact .inr (hO.pd t h)
  ·intro s
   by_cases h:s∈W
   ·exact .inl (TO s h)
   ·exact .inr (hO.qd s h)
 ·
  have hval:∀(x:Operand),x∈o.op.operands.toList->(ov p q st).aW x=st.aW x:=fun x hx=>J0 fun t e=>hp t (.inl (uy hx e))
  have hdst:∀k,o.dst=some k->p k=none/\k∈dJ o:=fun k hk=>by
   have:k∈dJ o:=by simp [dJ,hk]
   exact ⟨hp k (.inr this),this⟩
  have body:(¬aY LF RF o.op=.app)->∀(hh:∀xs f ss Ja args ts,o.op=.call ⟨.value Ja,args,ts⟩->bQ (ov p q st).aW args.toList=some xs->(ov p q st).aW Ja=some (.c (.sH f ss)) ->
    m=.none\/((m=.bg\/m=.give)/\(∀s∈reach (ov p q st).boxes 3 (dedup ((xs++tM ss).flatMap SV.ids)),q s=none/\s∈W)/\∀k,o.dst=some k->∀mm,q (eG mm k)=none/\eG mm k∈W)),
    cM P T m o (ov p q st) V K->cM P T m o st V K':=by
   intro happ hh hv
   unfold cM at hv ⊢
   split at hv
   ·rename_i Ja args ts hop
    have e1:bQ (ov p q st).aW args.toList=bQ st.aW args.toList:=dN _ fun x hx=>hval x (by rw [hop];simp [Op.operands,Call.operands];exact .inr (by simpa using hx))
    have e2:(ov p q st).aW Ja=st.aW Ja:=hval Ja (by rw [hop];simp [Op.operands,Call.operands])
    split at hv
    ·rename_i xs hxs
     split at hv
     ·rename_i f ss hf
      have hmm:=hh _ _ _ _ _ _ hop hxs hf
      rw [e1] at hxs
      rw [e2] at hf
      simp only [hxs,hf]
      exact rB hmm hdst hK hv
     ·exact hv.elim
    ·exact hv.elim
   ·rename_i recv name args ts hop
    have hmn:m=.none:=by
     rw [hop] at hm
     rcases hm with ⟨-,h⟩|⟨h,-⟩|⟨h,-⟩|h
     ·exact h
     ·cases h
     ·cases h
     ·cases h
    have e1:bQ (ov p q st).aW args.toList=bQ st.aW args.toList:=dN _ fun x hx=>hval x (by rw [hop];simp [Op.operands,Call.operands];exact .inr (by simpa using hx))
    have e2:(ov p q st).aW recv=st.aW recv:=hval recv (by rw [hop];simp [Op.operands,Call.operands])
    split at hv
    ·rename_i xs hxs
     split at hv
     ·rename_i t v hf
      split at hv
      ·rename_i f Ho
       rw [e1] at hxs
       rw [e2] at hf
       simp only [hxs,hf,Ho]
       exact rB (.inl hmn) hdst hK hv
      ·exact hv.elim
     ·exact hv.elim
    ·exact hv.elim
   ·rename_i hnc Ny
    exfalso
    have hc4:aY LF RF o.op=.call\/aY LF RF o.op=.jO\/aY LF RF o.op=.give:=by
     rcases hm with ⟨h,-⟩|⟨h,-⟩|⟨h,-⟩|h
     ·exact .inl h
     ·exact .inr (.inl h)
     ·exact .inr (.inr h)
     ·exact absurd h happ
    clear hm happ hh
    generalize hop:o.op=op at hc4 hnc Ny
    cases op with
    | call c=>
     obtain ⟨Eu,args,ts⟩:=c
     cases Eu with
     | builtin b=>cases b<;>rcases hc4 with h|h|h<;>cases h
     | value f=>exact hnc f args ts rfl
     | invoke r nm=>exact Ny r nm args ts rfl
    | _=>rcases hc4 with h|h|h<;>cases h
  have RH:∀l:List Nat,W=l++dJ o++(dJ o).map (·+ 200000)->∀k,o.dst=some k->∀mm,q (eG mm k)=none/\eG mm k∈W:=by
   intro l hW k hk mm
   have:eG mm k∈W:=by
    rw [hW]
    have hkd:=(hdst k hk).2
    rcases H0 (m:=mm) (d:=k) with h|h<;>rw [h]<;>simp [hkd]
   exact ⟨TO _ this,this⟩
  have own:∀l:List Nat,h=.own l->R=l->W=l++dJ o++(dJ o).map (·+ 200000)->(aY LF RF o.op=.jO\/aY LF RF o.op=.give\/aY LF RF o.op=.app)->(¬aY LF RF o.op=.app->m=.bg\/m=.give)->cB P T m h o st V K':=by
   intro l hh hR hW hcl hmm
   subst hh hR
   unfold cB at hv ⊢
   dsimp only at hv ⊢
   split at hv
   ·rename_i ys hys
    split at hv
    ·rename_i hsub
     have e0:bQ (ov p q st).aW (gH o.op)=bQ st.aW (gH o.op):=dN _ fun x hx=>hval x (ux hx)
     rw [←e0,hys]
     dsimp only
     have hin:∀s∈dY (ov p q st).boxes o.op (ys.flatMap SV.ids),s∈R:=uY.1 hsub
     have e3:dY st.boxes o.op (ys.flatMap SV.ids)=dY (ov p q st).boxes o.op (ys.flatMap SV.ids):=by
      revert hin
      unfold dY
      split
      ·intro hin
       exact lG 3 _ fun s hs=>(cx (hq s (hin s hs))).symm
      ·exact fun _=>rfl
     rw [e3,hsub]
     dsimp only
     have TH:∀s∈R,s∈W:=fun s hs=>by rw [hW];simp [hs]
     by_cases happ:aY LF RF o.op=.app
     ·
      have hop:∃args ts,o.op=.call ⟨.builtin .append,args,ts⟩:=by
       generalize o.op=op at happ
       cases op with
       | call c=>
        obtain ⟨Eu,args,ts⟩:=c
        cases Eu with
        | builtin b=>cases b<;>first|exact ⟨args,ts,rfl⟩|cases happ
        | value f=>cases f with
         | func f=>simp only [aY] at happ;split at happ<;>(try split at happ)<;>(try split at happ)<;>(try split at happ)<;>cases happ
         | _=>cases happ
        | _=>cases happ
       | _=>cases happ
      obtain ⟨args,ts,hop⟩:=hop
      have e4:aI T st.aW st.boxes o.op=aI T (ov p q st).aW (ov p q st).boxes o.op/\∀s,yJ (aI T st.aW st.boxes o.op)=some s->s∈R:=by
       have e5:bQ (ov p q st).aW args.toList=bQ st.aW args.toList:=by rw [hop] at e0;exact e0
       have Rd:bQ st.aW args.toList=some ys:=by rw [hop] at hys;rw [←e5];exact hys
       have hin':∀s∈ys.flatMap SV.ids,s∈R:=by
        intro s hs
        refine hin s ?_
        rw [hop]
        simp only [dY]
        exact dZ 3 _ s (bH.2 hs)
       rw [hop]
       simp only [aI]
       rw [e5,Rd]
       exact J5 (fun s hs=>by rw [cx (hq s (hin' s hs))]) hin'
      have hvb:rL (aI T (ov p q st).aW (ov p q st).boxes o.op) o.dst (ov p q st) V K:=by
       unfold cM at hv
       rw [hop] at hv ⊢
       exact hv
      have hgoal:rL (aI T st.aW st.boxes o.op) o.dst st V K'->cM P T m o st V K':=by
       intro h
       unfold cM
       rw [hop] at h ⊢
       exact h
      rw [←e4.1] at hvb
      refine hgoal ?_
      have htag:∀Q0,aI T st.aW st.boxes o.op=Q0->cW Q0=6\/Q0=.fail:=by
       intro Q0 hQ
       rw [←hQ,hop]
       exact Ir
      generalize VB:aI T st.aW st.boxes o.op=Q0 at hvb e4
      exact Ab (htag Q0 VB) (fun s hs=>⟨hq s (e4.2 s hs),TH s (e4.2 s hs)⟩) (fun k hk=>⟨hdst k hk,fun s=>by
       have:=RH R hW k hk (some s)
       exact this⟩) (fun k hk=>RH R hW k hk Option.none) hK hvb
     ·have hmode:=hmm happ
      refine body happ (fun xs f ss Ja args ts hop hxs hf=>.inr ⟨hmode,fun s hs=>?_,RH R hW⟩) hv
      have:s∈R:=by
       apply hin
       rw [hop] at hys ⊢
       simp only [dY]
       have hy:ys.flatMap SV.ids=(xs++tM ss).flatMap SV.ids:=by
        have:∀(l:List Operand)(xs:List SV)(x:Operand)(v:SV),bQ (ov p q st).aW l=some xs->(ov p q st).aW x=some v->bQ (ov p q st).aW (l++[x])=some (xs++[v]):=by
         intro l
         induction l with
         | nil=>intro xs x v h1 h2;simp only [bQ,Option.some.injEq] at h1;subst h1;simp [bQ,h2]
         | cons o r ih=>
          intro xs x v h1 h2
          simp only [bQ] at h1
          split at h1
          ·rename_i y l' h3 h4
           cases h1
           simp only [List.cons_append,bQ,h3,ih _ x v h4 h2]
          ·cases h1
        simp only [gH] at hys
        rw [this _ _ _ _ hxs hf] at hys
        cases hys
        simp only [List.flatMap_append]
        congr 1
        simp [tM,SV.ids,C.ids,List.flatMap_map]
       rw [hy]
       exact hs
      exact ⟨hq s this,TH s this⟩
    ·exact hv.elim
   ·exact hv.elim
  rcases hm with ⟨hc,hm⟩|⟨hc,hm⟩|⟨hc,hm⟩|hc
  ·rw [hc] at hrw
   cases h with
   | own l=>cases hrw
   | free=>exact body (by rw [hc];exact fun h=>by cases h) (fun _ _ _ _ _ _ _ _ _=>.inl hm) hv
  ·rw [hc] at hrw
   cases h with
   | free=>cases hrw
   | own l=>
    simp only [o_,Option.some.injEq,Prod.mk.injEq] at hrw
    exact own l rfl hrw.1.symm hrw.2.symm (.inl hc) (fun _=>.inl hm)
  ·rw [hc] at hrw
   cases h with
   | free=>cases hrw
   | own l=>
    simp only [o_,Option.some.injEq,Prod.mk.injEq] at hrw
    exact own l rfl hrw.1.symm hrw.2.symm (.inr (.inl hc)) (fun _=>.inr hm)
  ·rw [hc] at hrw
   cases h with
   | free=>cases hrw
   | own l=>
    simp only [o_,Option.some.injEq,Prod.mk.injEq] at hrw
    exact own l rfl hrw.1.symm hrw.2.symm (.inr (.inr hc)) (fun h=>absurd hc h)
end Go.bF
namespace Go.bF
variable {P:Program} {T:cQ} {LF RF:List Nat}
def vR (ops:Array Oper)(o:Oper)(st:St)(k:St->Bool->Prop):Prop:=
 match o.guard with
 | none=>k st true
 | some (j,b)=>match (ops[j]?).bind (·.dst) with
  | none=>False
  | some g=>match st.aw g with
   | some (.c .tt)=>k st b
   | some (.c .ff)=>k st (!b)
   | some (.c (.v (.bool c)))=>(c=true->k (st.put (some g) (.c .tt)) b)/\(c=false->k (st.put (some g) (.c .ff)) (!b))
   | some (.oc _)=>k st false
   | _=>False
def kK (P:Program)(T:cQ)(m:CM)(h:Hint)(o:Oper)(V:View)(K:St->View->Prop)(st:St)(w:Bool):Prop:=
 match w with
 | true=>cB P T m h o st V K
 | false=>K (st.put o.dst iF) V
theorem Aa {m:CM}{h:Hint}{ops:Array Oper}{o:Oper}{st:St}{V:View}{K:St->View->Prop} :
  pw P T m h ops o st V K↔vR ops o st (kK P T m h o V K):=by
 unfold pw vR
 cases hg:o.guard with
 | none=>rfl
 | some jb=>
  obtain ⟨j,b⟩:=jb
  dsimp only
  cases hd:(ops[j]?).bind (·.dst) with
  | none=>rfl
  | some g=>
   dsimp only
   split<;>simp_all<;>cases b<;>rfl
def iA:Nat->Option aP:=fun _=>none
structure PV (ops:Array Oper) (o:Oper) (st:St) (k:St->Bool->Prop) (p:Nat->Option SV) (w:Bool):Prop where
 pd:∀t,t∉dE ops o->p t=none
 next:k (ov p iA st) w
 again:∀(st2:St)(k2:St->Bool->Prop),(∀t∈dE ops o,st2.aw t=st.aw t)->k2 (ov p iA st2) w->vR ops o st2 k2
theorem eY {ops:Array Oper}{o:Oper}{st:St}{k:St->Bool->Prop}(h:vR ops o st k):∃p w,PV ops o st k p w:=by
 unfold vR at h
 split at h
 ·rename_i hg
  exact ⟨fun _=>none,true,fun _ _=>rfl,h,fun st2 k2 _ hk=>by unfold vR;rw [hg];exact hk⟩
 ·rename_i j b hg
  split at h
  ·exact h.elim
  ·rename_i g hd
   have hgt:dE ops o=[g]:=by simp only [dE,hg,hd]
   split at h
   ·rename_i hs
    exact ⟨fun _=>none,b,fun _ _=>rfl,h,fun st2 k2 ha hk=>by unfold vR;simp only [hg,hd,ha g (by simp [hgt]),hs];exact hk⟩
   ·rename_i hs
    exact ⟨fun _=>none,!b,fun _ _=>rfl,h,fun st2 k2 ha hk=>by unfold vR;simp only [hg,hd,ha g (by simp [hgt]),hs];exact hk⟩
   ·rename_i c hs
    cases c with
    | true=>
     refine ⟨one (some g) (.c .tt),b,fun t ht=>dA (by intro e;apply ht;rw [hgt];simpa using e.symm),?_,fun st2 k2 ha hk=>?_⟩
     ·have:=h.1 rfl;rw [eo] at this;exact this
     ·unfold vR;simp only [hg,hd,ha g (by simp [hgt]),hs]
      exact ⟨fun _=>by rw [eo];exact hk,fun e=>by cases e⟩
    | false=>
     refine ⟨one (some g) (.c .ff),!b,fun t ht=>dA (by intro e;apply ht;rw [hgt];simpa using e.symm),?_,fun st2 k2 ha hk=>?_⟩
     ·have:=h.2 rfl;rw [eo] at this;exact this
     ·unfold vR;simp only [hg,hd,ha g (by simp [hgt]),hs]
      exact ⟨fun e=>(by cases e),fun _=>by rw [eo];exact hk⟩
   ·rename_i xs hs
    exact ⟨fun _=>none,false,fun _ _=>rfl,h,fun st2 k2 ha hk=>by unfold vR;simp only [hg,hd,ha g (by simp [hgt]),hs];exact hk⟩
   ·exact h.elim
theorem lT {ops:Array Oper}{o:Oper}{st:St}{k k':St->Bool->Prop}(hk:∀s w,k s w->k' s w)(h:vR ops o st k):vR ops o st k':=by
 obtain ⟨p,w,hO⟩:=eY h
 exact hO.again st k' (fun _ _=>rfl) (hk _ _ hO.next)
theorem put_comm {st:St}{d d':Option Nat}{x y:SV}(h:∀k,d=some k->d'≠some k):(st.put d x).put d' y=(st.put d' y).put d x:=by
 cases d with
 | none=>rfl
 | some d=>
  cases d' with
  | none=>rfl
  | some d'=>
   have hne:d≠d':=fun e=>h d rfl (by rw [e])
   simp only [St.put]
   congr 1
   funext t
   by_cases e:t=d
   ·subst e;simp [Nat.beq_refl,di hne]
   ·simp [di e]
theorem De {ops:Array Oper}{o1 o2:Oper}{st:St}{F:St->Bool->Bool->Prop}(h:vR ops o1 st fun s w1=>vR ops o2 s fun s' w2=>F s' w1 w2) :
  vR ops o2 st fun s w2=>vR ops o1 s fun s' w1=>F s' w1 w2:=by
 by_cases hsh:∃g,dE ops o1=[g]/\dE ops o2=[g]
 ·obtain ⟨g,e1,e2⟩:=hsh
  unfold dE at e1 e2
  split at e1
  ·cases e1
  ·rename_i j1 b1 hg1
   split at e1
   ·rename_i g1 hd1
    cases e1
    split at e2
    ·cases e2
    ·rename_i j2 b2 hg2
     split at e2
     ·rename_i g2 hd2
      cases e2
      unfold vR at h ⊢
      simp only [hg1,hg2,hd1,hd2] at h ⊢
      split at h
      ·rename_i hs;exact h
      ·rename_i hs;exact h
      ·rename_i c hs
       simp only [c_,if_true] at h ⊢
       exact h
      ·rename_i xs hs;exact h
      ·exact h.elim
     ·cases e2
   ·cases e1
 ·obtain ⟨p1,w1,h1⟩:=eY h
  obtain ⟨p2,w2,h2⟩:=eY h1.next
  have LV:∀o:Oper,dE ops o=[]\/∃g,dE ops o=[g]:=by
   intro o;unfold dE
   split
   ·exact .inl rfl
   ·split
    ·exact .inr ⟨_,rfl⟩
    ·exact .inl rfl
  have hdj:∀t,t∈dE ops o1->t∉dE ops o2:=by
   intro t ht1 ht2
   rcases LV o1 with e1|⟨g1,e1⟩
   ·rw [e1] at ht1;cases ht1
   ·rcases LV o2 with e2|⟨g2,e2⟩
    ·rw [e2] at ht2;cases ht2
    ·rw [e1] at ht1;rw [e2] at ht2
     simp at ht1 ht2
     exact hsh ⟨t,by rw [e1,ht1],by rw [e2,ht2]⟩
  refine h2.again st _ (fun t ht=>?_) (h1.again _ _ (fun t ht=>?_) ?_)
  ·show st.aw t=(ov p1 iA st).aw t
   simp [ov,h1.pd t (fun h=>hdj t h ht)]
  ·show (ov p2 iA st).aw t=st.aw t
   simp [ov,h2.pd t (hdj t ht)]
  ·have e:ov p1 iA (ov p2 iA st)=ov p2 iA (ov p1 iA st):=zH (fun t=>by
    by_cases ht:t∈dE ops o1
    ·exact .inr (h2.pd t (hdj t ht))
    ·exact .inl (h1.pd t ht)) (fun _=>.inl rfl)
   show F (ov p1 iA (ov p2 iA st)) w1 w2
   rw [e]
   exact h2.next
theorem gR {o:Oper}{k:Nat}(h:o.dst=some k):k∈dJ o:=by simp [dJ,h]
theorem JY {ops:Array Oper}{m1 m2:CM}{h1 h2:Hint}{o1 o2:Oper}{st:St}{V:View}{K:St->View->Prop}
  (hi:indep LF RF ops h1 h2 o1 o2=true)
  (hm:lF (aY LF RF o2.op)=true\/(aY LF RF o2.op=.call/\m2=.none)\/((aY LF RF o2.op=.jO/\m2=.bg)\/(aY LF RF o2.op=.give/\m2=.give)\/aY LF RF o2.op=.app))
  (hv:pw P T m1 h1 ops o1 st V fun st1 V1=>pw P T m2 h2 ops o2 st1 V1 K) :
  pw P T m2 h2 ops o2 st V fun st2 V2=>pw P T m1 h1 ops o1 st2 V2 K:=by
 unfold indep at hi
 simp only [Bool.and_eq_true] at hi
 obtain ⟨⟨⟨⟨⟨hq1,hd1⟩,hd2⟩,hg1⟩,hg2⟩,hrw⟩:=hi
 split at hrw
 ·rename_i R1 W1 R2 W2 hr1 hr2
  simp only [Bool.and_eq_true] at hrw
  obtain ⟨⟨NO,NP⟩,TS⟩:=hrw
  rw [Ba] at hd1 hd2 hg1 hg2 NO NP TS
  have QN:∀k,o2.dst=some k->o1.dst≠some k:=fun k hk hk'=>hd1 k (gR hk') (by simp [gR hk])
  simp only [Aa] at hv ⊢
  have sa:vR ops o1 st fun s w1=>vR ops o2 s fun s' w2=>kK P T m1 h1 o1 V (fun s'' eC=>kK P T m2 h2 o2 eC K s'' w2) s' w1:=by
   refine lT (fun s w1 hb=>?_) hv
   cases w1 with
   | true=>
    obtain ⟨p,q,hO⟩:=mq hq1 hr1 hb
    obtain ⟨p2,w2,hG⟩:=eY hO.next
    refine hG.again s _ (fun t ht=>?_) ?_
    ·show s.aw t=(ov p q s).aw t
     simp [ov,hO.pd t (fun h=>hd1 t h (by simp [ht]))]
    ·refine hO.again _ V _ (View.Le.refl V) (fun t ht=>?_) (fun _ _=>rfl) ?_
     ·show (ov p2 iA s).aw t=s.aw t
      simp [ov,hG.pd t (fun h=>hg2 t h ht)]
     ·rw [zH (q2:=iA) _ (fun _=>.inr rfl)]
      ·exact hG.next
      ·intro t
       by_cases ht:t∈dE ops o2
       ·exact .inl (hO.pd t (fun h=>hd1 t h (by simp [ht])))
       ·exact .inr (hG.pd t ht)
   | false=>
    simp only [kK] at hb
    obtain ⟨p2,w2,hG⟩:=eY hb
    have hp:∀k,o1.dst=some k->p2 k=none:=fun k hk=>hG.pd k (fun h=>hd1 k (gR hk) (by simp [h]))
    refine hG.again s _ (fun t ht=>?_) ?_
    ·rw [eo]
     simp [ov,dA (d:=o1.dst) (x:=iF) (t:=t) (fun h=>hd1 t (gR h) (by simp [ht]))]
    ·show kK P T m2 h2 o2 V K ((ov p2 iA s).put o1.dst iF) w2
     rw [jt hp]
     exact hG.next
  have sb:=De sa
  have sc:vR ops o2 st fun s w2=>vR ops o1 s fun s' w1=>kK P T m2 h2 o2 V (fun s'' eC=>kK P T m1 h1 o1 eC K s'' w1) s' w2:=by
   refine lT (fun s w2 hb=>lT (fun s' w1 hb=>?_) hb) sb
   cases w1 with
   | true=>
    obtain ⟨p,q,hO⟩:=mq hq1 hr1 hb
    cases w2 with
    | true=>
     refine pM hm hr2 (fun t ht=>hO.pd t (fun h=>hd1 t h (by rcases ht with ht|ht<;>simp [ht]))) (fun s hs=>hO.qd s (fun h=>NO s h hs)) (fun s hs=>hO.qd s (fun h=>TS s h hs)) (fun s2 V2 hG=>?_) hO.next
     obtain ⟨g1,g2,g3,g4⟩:=hG
     exact hO.again s2 V2 K g1 (fun t ht=>g2 t (fun h=>hd2 t h (by simp [ht]))) (fun s hs=>g3 s (fun h=>NP s h hs)) g4
    | false=>
     refine hO.again _ V K (View.Le.refl V) (fun t ht=>?_) (fun s _=>by cases o2.dst<;>rfl) ?_
     ·rw [eo]
      simp [ov,dA (d:=o2.dst) (x:=iF) (t:=t) (fun h=>hd2 t (gR h) (by simp [ht]))]
     ·have:=hO.next
      simp only [kK] at this
      rw [jt (fun k hk=>hO.pd k (fun h=>hd1 k h (by simp [gR hk])))] at this
      exact this
   | false=>
    cases w2 with
    | true=>
     simp only [kK] at hb ⊢
     rw [eo] at hb
     refine pM hm hr2 (fun t ht=>dA (fun e=>hd1 t (gR e) (by rcases ht with ht|ht<;>simp [ht]))) (fun s hs=>rfl) (fun s hs=>rfl) (fun s2 V2 hG=>?_) hb
     have:=hG.2.2.2
     rw [←eo] at this
     exact this
    | false=>
     simp only [kK] at hb ⊢
     rw [put_comm QN]
     exact hb
  refine lT (fun s w2 hb=>?_) sc
  cases w2 with
  | true=>
   simp only [kK] at hb ⊢
   obtain ⟨p,w1,hG⟩:=eY hb
   refine pM hm hr2 (fun t ht=>hG.pd t (fun h=>?_)) (fun _ _=>rfl) (fun _ _=>rfl) (fun s2 V2 Vu=>?_) hG.next
   ·rcases ht with ht|ht
    ·exact hg1 t h ht
    ·exact hd2 t ht (by simp [h])
   ·obtain ⟨g1,g2,g3,g4⟩:=Vu
    exact hG.again s2 _ (fun t ht=>g2 t (fun h=>hd2 t h (by simp [ht]))) g4
  | false=>
   simp only [kK] at hb ⊢
   obtain ⟨p,w1,hG⟩:=eY hb
   refine hG.again _ _ (fun t ht=>?_) ?_
   ·rw [eo]
    simp [ov,dA (d:=o2.dst) (x:=iF) (t:=t) (fun h=>hd2 t (gR h) (by simp [ht]))]
   ·have:=hG.next
    rw [jt (fun k hk=>hG.pd k (fun h=>hd2 k (gR hk) (by simp [h])))] at this
    exact this
 ·cases hrw
end Go.bF
