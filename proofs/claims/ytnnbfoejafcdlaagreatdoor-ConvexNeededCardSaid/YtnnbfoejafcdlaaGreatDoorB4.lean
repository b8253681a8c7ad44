import Derived.Test.YtnnbfoejafcdlaaGreatDoorB3
set_option linter.unusedVariables false
open Go.IntKind (i64 u64 u32)
namespace Go.bu
variable {P:Program} {T:cF} {n:Nat} {V0:View} {bo:Bo} {β0:Nat->Nat} {st:St} {β:Nat->Nat} {a:Act} {w:World} {V:View}
theorem B7 {t:TypeId}{name:String}{f:FuncId}(h:B6 P t name=some f)(k:Nat)(v:Value)(w:World):(Go.method (k+1) t v name).run P w=.ok (f,v) w:=by
 unfold B6 at h
 split at h
 ·rename_i i d h1 h2
  split at h
  ·rename_i m hm
   split at h
   ·rename_i f' fs hp hf
    cases h
    have hp':m.path=#[]:=by apply Array.ext';exact hp
    simp only [Go.method,typeInfo,Sem.run_bind,run_program,Result.andThen_ok,h1,hm,Sem.run_pure,hp',follow,hf,receiverAt,aj h2,Place.get]
   ·cases h
  ·cases h
 ·cases h
theorem pF (hT:cF.ok P T)(hM:Mod n V0 bo β0 st β a w V){m:CM}{o:Oper}{K:St->View->Prop}{next:Act->World->Prop}{Q:Exit->Act->World->Prop}
  (hd:∀d,o.dst=some d->d<n)(hv:cC P T m o st V K)
  (hK:∀st' β' a' w' V',Mod n V0 bo β0 st' β' a' w' V'->K st' V'->next a' w'):o.wp P a w next Q:=by
 unfold cC at hv
 split at hv
 ·rename_i Hj args ts hop
  split at hv
  ·rename_i xs hxs
   obtain ⟨h1,h2⟩:=eM hM _ _ hxs
   split at hv
   ·rename_i f ss hf
    obtain ⟨hc,cL⟩:=rO (Q:=Q) hM hd hv hK
    have e1:args.map a.eval=(xs.map (SV.den β)).toArray:=by apply Array.ext';rw [Array.toList_map];exact h1
    have e2:aQ β (xs++rR ss)=(xs.map (SV.den β)).toArray++(ss.map fun s=>Value.pointer (some ⟨β s,0,none⟩)).toArray:=by
     unfold aQ rR
     rw [List.map_append,List.map_map]
     apply Array.ext'
     simp [Function.comp_def,SV.den,C.den]
    have hrun:(execOp a.eval o).run P w=.ok (.enter f (aQ β (xs++rR ss))) w:=by
     rw [e2]
     simp only [execOp,hop,resolve,hM.eval hf,SV.den,C.den,Deferred.ofValue,pure_bind,invoke,e1,Array.empty_append]
     exact hc.run _
    unfold Oper.wp
    rw [hrun]
    exact cL
   ·exact hv.elim
  ·exact hv.elim
 ·rename_i recv name args ts hop
  split at hv
  ·rename_i xs hxs
   obtain ⟨h1,h2⟩:=eM hM _ _ hxs
   split at hv
   ·rename_i t v hf
    split at hv
    ·rename_i f FJ
     obtain ⟨hc,cL⟩:=rO (Q:=Q) hM hd hv hK
     have e1:args.map a.eval=(xs.map (SV.den β)).toArray:=by apply Array.ext';rw [Array.toList_map];exact h1
     have e2:aQ β (.c (.w v)::xs)=#[v]++(xs.map (SV.den β)).toArray:=by
      unfold aQ
      apply Array.ext'
      simp [SV.den,C.den]
     have hrun:(execOp a.eval o).run P w=.ok (.enter f (aQ β (.c (.w v)::xs))) w:=by
      rw [e2]
      have e3:(#[Value.iface t v]++(xs.map (SV.den β)).toArray).extract 1 (#[Value.iface t v]++(xs.map (SV.den β)).toArray).size=(xs.map (SV.den β)).toArray:=by
       apply Array.ext'
       simp
       exact List.take_of_length_le (by simp)
      have e4:(#[Value.iface t v]++(xs.map (SV.den β)).toArray)[0]?=some (Value.iface t v):=by simp
      simp only [execOp,hop,resolve,hM.eval hf,SV.den,C.den,pure_bind,invoke,e1,e4,e3,callMethod,Sem.run_bind,run_program,Result.andThen_ok,Made.depth]
      rw [B7 FJ]
      exact hc.run _
     unfold Oper.wp
     rw [hrun]
     exact cL
    ·exact hv.elim
   ·exact hv.elim
  ·exact hv.elim
 ·exact Aq hT hM hd hv hK
theorem gN (hT:cF.ok P T)(hM:Mod n V0 bo β0 st β a w V){m:CM}{h:Hint}{o:Oper}{K:St->View->Prop}{next:Act->World->Prop}{Q:Exit->Act->World->Prop}
  (hd:∀d,o.dst=some d->d<n)(hv:ck P T m h o st V K)
  (hK:∀st' β' a' w' V',Mod n V0 bo β0 st' β' a' w' V'->K st' V'->next a' w'):o.wp P a w next Q:=by
 unfold ck at hv
 split at hv
 ·exact pF hT hM hd hv hK
 ·split at hv
  ·split at hv
   ·exact pF hT hM hd hv hK
   ·exact hv.elim
  ·exact hv.elim
theorem Mod.refine (hM:Mod n V0 bo β0 st β a w V){g:Nat}{x y:SV}(hx:st.aq g=some x)(he:x.den β=y.den β)(hy:y.ids=[]):Mod n V0 bo β0 (st.put (some g) y) β a w V:=by
 refine ⟨hM.defers,hM.size,?_,?_,hM.vv,hM.boxes,hM.inj,hM.mW,hM.qV,hM.ext,hM.own,hM.kj,hM.i_,hM.small⟩
 ·intro t z hz
  rw [cN] at hz
  split at hz
  ·rename_i e;simp only [Option.some.injEq] at hz;rw [e,←hz,←he];exact hM.aq g x hx
  ·exact hM.aq t z hz
 ·intro t z hz
  rw [cN] at hz
  split at hz
  ·simp only [Option.some.injEq] at hz;rw [←hz,hy];exact fun s hs=>(nomatch hs)
  ·exact hM.vx t z hz
theorem CW {ops:Array Oper}{tmps:Array Value}{j g:Nat}(hg:(ops[j]?).bind (·.dst)=some g):yielded ops tmps j=match tmps.getD g undef with|.bool b=>some b|_=>none:=by
 unfold yielded
 rw [hg]
 simp only [Option.bind_some]
 by_cases h:g<tmps.size
 ·have h1:tmps[g]?=some tmps[g]:=getElem?_pos tmps g h
  have h2:tmps.getD g undef=tmps[g]:=by simp [h]
  rw [h1,h2]
  generalize tmps[g]=v
  cases v<;>rfl
 ·simp [h,undef]
theorem Ak (hT:cF.ok P T)(hM:Mod n V0 bo β0 st β a w V){m:CM}{h:Hint}{ops:Array Oper}{o:Oper}{K:St->View->Prop}{next:Act->World->Prop}{Q:Exit->Act->World->Prop}
  (hd:∀d,o.dst=some d->d<n)(hv:n_ P T m h ops o st V K)
  (hK:∀st' β' a' w' V',Mod n V0 bo β0 st' β' a' w' V'->K st' V'->next a' w') :
  if Region.wanted o (yielded ops a.tmps) then o.wp P a w next Q else next (a.put o.dst undef) w:=by
 unfold n_ at hv
 split at hv
 ·rename_i hg
  rw [if_pos (by simp [Region.wanted,hg])]
  exact gN hT hM hd hv hK
 ·rename_i j b hg
  split at hv
  ·exact hv.elim
  ·rename_i g hdst
   have hy:=CW (tmps:=a.tmps) hdst
   have hwant:∀c:Bool,a.tmps.getD g undef=.bool c->(Region.wanted o (yielded ops a.tmps)=true↔c=b):=by
    intro c hc
    simp only [Region.wanted,hg]
    rw [hy,hc]
    simp
   have skip:∀{st2:St},Mod n V0 bo β0 st2 β a w V->K (st2.put o.dst hU) V->next (a.put o.dst undef) w:=by
    intro st2 hM2 hK2
    exact hK _ _ _ _ _ (hM2.Cf hd rfl (bD rfl)) hK2
   split at hv
   ·rename_i hs
    have hval:=hM.aq g _ hs
    split at hv
    ·rw [if_pos ((hwant true hval).2 rfl)];exact gN hT hM hd hv hK
    ·rw [if_neg (fun h=>by have:=(hwant true hval).1 h;cases this)];exact skip hM hv
   ·rename_i hs
    have hval:=hM.aq g _ hs
    split at hv
    ·rw [if_neg (fun h=>by have:=(hwant false hval).1 h;cases this)];exact skip hM hv
    ·rw [if_pos ((hwant false hval).2 rfl)];exact gN hT hM hd hv hK
   ·rename_i c hs
    have hval:=hM.aq g _ hs
    have ht:c=true->Mod n V0 bo β0 (st.put (some g) (.c .tt)) β a w V:=fun e=>hM.refine hs (by rw [e];rfl) rfl
    have hf:c=false->Mod n V0 bo β0 (st.put (some g) (.c .ff)) β a w V:=fun e=>hM.refine hs (by rw [e];rfl) rfl
    split at hv
    ·cases c with
     | true=>rw [if_pos ((hwant true hval).2 rfl)];exact gN hT (ht rfl) hd (hv.1 rfl) hK
     | false=>rw [if_neg (fun h=>by have:=(hwant false hval).1 h;cases this)];exact skip (hf rfl) (hv.2 rfl)
    ·cases c with
     | true=>rw [if_neg (fun h=>by have:=(hwant true hval).1 h;cases this)];exact skip (ht rfl) (hv.1 rfl)
     | false=>rw [if_pos ((hwant false hval).2 rfl)];exact gN hT (hf rfl) hd (hv.2 rfl) hK
   ·rename_i xs hs
    have hval:=hM.aq g _ hs
    have:Region.wanted o (yielded ops a.tmps)=false:=by
     simp only [Region.wanted,hg]
     rw [hy,hval]
     simp [SV.den]
    rw [if_neg (by rw [this];simp)]
    exact skip hM hv
   ·exact hv.elim
theorem wF (hT:cF.ok P T){m:Nat->CM}{hint:Nat->Hint}{ops:Array Oper}(hd:∀(i:Nat)(o:Oper),ops[i]?=some o->∀d,o.dst=some d->d<n){Q:Exit->Act->World->Prop}{K:St->View->Prop}
  (hK:∀st' β' a' w' V',Mod n V0 bo β0 st' β' a' w' V'->K st' V'->Q .normal a' w') :
  ∀(l:List Nat)(st:St)(β:Nat->Nat)(a:Act)(w:World)(V:View),Mod n V0 bo β0 st β a w V->Ha P T m hint ops l st V K->wpOps P ops Q l a w
 | [],st,β,a,w,V,hM,hv=>hK _ _ _ _ _ hM hv
 | i::r,st,β,a,w,V,hM,hv=>by
  simp only [Ha] at hv
  simp only [wpOps]
  split at hv
  ·rename_i o ho
   rw [ho]
   dsimp only
   have:=Ak (Q:=Q) (next:=wpOps P ops Q r) hT hM (hd i o ho) hv (fun st' β' a' w' V' hM' sD=>wF hT hd hK r st' β' a' w' V' hM' sD)
   split at this
   ·rename_i hw;rw [if_pos hw];exact .inl this
   ·rename_i hw;rw [if_neg hw];exact this
  ·exact hv.elim
end Go.bu
namespace Go.bu
def ov (p:Nat->Option SV)(q:Nat->Option aO)(st:St):St:=
 ⟨fun t=>match p t with|some x=>some x|none=>st.aq t,fun t=>match q t with|some x=>some x|none=>st.boxes t⟩
theorem cQ {a b:Nat}(h:a≠b):Nat.beq a b=false:=by
 cases hb:Nat.beq a b
 ·rfl
 ·exact absurd (beq_eq.1 hb) h
section
variable {p:Nat->Option SV} {q:Nat->Option aO} {st:St}
theorem iQ {d:Option Nat}{x:SV}(h:∀k,d=some k->p k=none):(ov p q st).put d x=ov p q (st.put d x):=by
 cases d with
 | none=>rfl
 | some d=>
  have hd:=h d rfl
  simp only [ov,St.put]
  congr 1
  funext t
  by_cases e:t=d
  ·subst e;simp [hd,Nat.beq_refl]
  ·simp [cQ e]
theorem jU {s:Nat}{b:aO}(h:q s=none):(ov p q st).box s b=ov p q (st.box s b):=by
 simp only [ov,St.box]
 congr 1
 funext t
 by_cases e:t=s
 ·subst e;simp [h,Nat.beq_refl]
 ·simp [cQ e]
theorem ch {s:Nat}(h:q s=none):(ov p q st).boxes s=st.boxes s:=by simp [ov,h]
theorem H_ {x:Operand}(h:∀t,x=.tmp t->p t=none):(ov p q st).aU x=st.aU x:=by
 cases x with
 | tmp t=>simp [St.aU,ov,h t rfl]
 | _=>rfl
def one {α:Type}(d:Option Nat)(x:α):Nat->Option α:=fun t=>match d with|some k=>cond (Nat.beq t k) (some x) none|none=>none
theorem df {α:Type}{d:Option Nat}{x:α}{t:Nat}(h:d≠some t):one d x t=none:=by
 cases d with
 | none=>rfl
 | some k=>simp [one,cQ (fun e:t=k=>h (by rw [e]))]
theorem dU (d:Option Nat)(x:SV):st.put d x=ov (one d x) (fun _=>none) st:=by
 cases d with
 | none=>rfl
 | some d=>
  simp only [ov,St.put,one]
  congr 1
  funext t
  by_cases e:t=d
  ·subst e;simp [Nat.beq_refl]
  ·simp [cQ e]
theorem Bx (s:Nat)(b:aO):st.box s b=ov (fun _=>none) (one (some s) b) st:=by
 simp only [ov,St.box,one]
 congr 1
 funext t
 by_cases e:t=s
 ·subst e;simp [Nat.beq_refl]
 ·simp [cQ e]
theorem vP (s:Nat)(b:aO)(d:Option Nat)(x:SV):(st.box s b).put d x=ov (one d x) (one (some s) b) st:=by
 rw [dU,Bx];rfl
end
theorem dE {ρ ρ':Operand->Option SV}:∀l:List Operand,(∀x∈l,ρ x=ρ' x)->bI ρ l=bI ρ' l
 | [],_=>rfl
 | o::r,h=>by simp only [bI];rw [h o (by simp),dE r fun x hx=>h x (by simp [hx])]
theorem iR {ρ ρ':Operand->Option SV}:∀l:List (Nat×Operand),(∀x∈l.map (·.2),ρ x=ρ' x)->partsOf ρ l=partsOf ρ' l
 | [],_=>rfl
 | (i,o)::r,h=>by simp only [partsOf];rw [h o (by simp),iR r fun x hx=>h x (by simp only [List.map_cons,List.mem_cons];exact .inr hx)]
theorem mz {ρ ρ':Operand->Option SV}:∀l:Option Operand,(∀x,l=some x->ρ x=ρ' x)->xQ ρ l=xQ ρ' l
 | none,_=>rfl
 | some o,h=>by simp only [xQ];rw [h o rfl]
theorem kK {T:cF}{ρ ρ':Operand->Option SV}{bx:Nat->Option aO}{op:Op}(h:∀x∈op.operands.toList,ρ x=ρ' x):aH T ρ bx op=aH T ρ' bx op:=by
 cases op with
 | move x=>simp only [aH];rw [h x (by simp [Op.operands])]
 | assign x=>simp only [aH];rw [h x (by simp [Op.operands])]
 | pick c a b=>simp only [aH];rw [h c (by simp [Op.operands]),h a (by simp [Op.operands]),h b (by simp [Op.operands])]
 | box t x=>simp only [aH];rw [h x (by simp [Op.operands])]
 | build t ps=>simp only [aH];rw [iR _ fun x hx=>h x (by simpa [Op.operands] using hx)]
 | buildSlice t n ps=>simp only [aH];rw [iR _ fun x hx=>h x (by simpa [Op.operands] using hx)]
 | load t a=>simp only [aH];rw [h a (by simp [Op.operands])]
 | store t a x=>simp only [aH];rw [h a (by simp [Op.operands]),h x (by simp [Op.operands])]
 | nilCheck x=>simp only [aH];rw [h x (by simp [Op.operands])]
 | binOp o xt x y yt=>simp only [aH];rw [h x (by simp [Op.operands]),h y (by simp [Op.operands])]
 | unOp o xt x=>cases o<;>simp only [aH]<;>rw [h x (by simp [Op.operands])]
 | convert s d x=>simp only [aH];rw [h x (by simp [Op.operands])]
 | makeFunc fn first caps=>
  cases fn with
  | func f=>simp only [aH];rw [dE _ fun x hx=>h x (by simp [Op.operands];exact .inr (by simpa using hx))]
  | _=>rfl
 | makeSlice t a b=>simp only [aH];rw [h a (by simp [Op.operands]),h b (by simp [Op.operands])]
 | slice t x lo hi mx=>
  simp only [aH]
  rw [h x (by simp [Op.operands]),mz lo fun y hy=>h y (by simp [Op.operands,hy]),mz hi fun y hy=>h y (by simp [Op.operands,hy]),mz mx fun y hy=>h y (by simp [Op.operands,hy])]
 | fieldAddr t x f=>simp only [aH];rw [h x (by simp [Op.operands])]
 | field t x f=>simp only [aH];rw [h x (by simp [Op.operands])]
 | indexAddr t x i=>simp only [aH];rw [h x (by simp [Op.operands]),h i (by simp [Op.operands])]
 | extract x j=>simp only [aH];rw [h x (by simp [Op.operands])]
 | index t x i=>simp only [aH];rw [h x (by simp [Op.operands]),h i (by simp [Op.operands])]
 | makeInterface t x=>simp only [aH];rw [h x (by simp [Op.operands])]
 | call c=>
  obtain ⟨C5,args,ts⟩:=c
  cases C5 with
  | builtin b=>
   have e:bI ρ args.toList=bI ρ' args.toList:=dE _ fun x hx=>h x (by simpa [Op.operands,Call.operands] using hx)
   cases b<;>simp only [aH]<;>rw [e]
  | _=>rfl
 | _=>rfl
theorem GG {T:cF}{LF RF:List Nat}{ρ:Operand->Option SV}{bx bx':Nat->Option aO}{op:Op}(h:aW LF RF op=.pure\/aW LF RF op=.alloc):aH T ρ bx op=aH T ρ bx' op:=by
 cases op with
 | load t a=>rcases h with h|h<;>cases h
 | store t a x=>rcases h with h|h<;>cases h
 | unOp o xt x=>cases o<;>rfl
 | makeFunc fn first caps=>cases fn<;>rfl
 | call c=>
  obtain ⟨C5,args,ts⟩:=c
  cases C5 with
  | builtin b=>cases b<;>first|rfl|(rcases h with h|h<;>cases h)
  | _=>rfl
 | _=>rfl
theorem GJ {bx bx':Nat->Option aO}{i:TI}{x:SV}(h:∀s∈x.ids,bx' s=bx s):g_ bx i x=g_ bx' i x:=by
 unfold g_
 split
 ·rename_i b o
  rw [h b (by simp [SV.ids,C.ids])]
 ·rfl
 ·rfl
theorem Ez {bx bx':Nat->Option aO}{i:TI}{x y:SV}(h:∀s∈x.ids,bx' s=bx s):fB bx i x y=fB bx' i x y:=by
 unfold fB
 split
 ·rename_i b o
  rw [h b (by simp [SV.ids,C.ids])]
 ·rfl
theorem Cm {bx:Nat->Option aO}{i:TI}{x y:SV}{sc:List Prop}{s:Nat}{b:aO}(h:fB bx i x y=.qn sc s b):s∈x.ids:=by
 unfold fB at h
 split at h
 ·split at h
  ·split at h
   ·split at h
    ·cases h;simp [SV.ids,C.ids]
    ·cases h
   ·split at h
    ·cases h;simp [SV.ids,C.ids]
    ·cases h
   ·split at h
    ·cases h
    ·split at h
     ·cases h;simp [SV.ids,C.ids]
     ·cases h
   ·cases h
  ·cases h
 ·cases h
theorem xX {V:View}{p:Addr}:∀(cs:List C) (i:Nat) {k:Prop},V.Ii p i cs k↔V.Ii p i cs True/\k
 | [],_,k=>by simp [View.Ii]
 | c::r,i,k=>by
  simp only [View.Ii]
  rw [xX r (i+1),and_assoc]
theorem GM {V V':View}(h:V.Le V'){p:Addr}:∀(cs:List C) (i:Nat) {k:Prop},V.Ii p i cs k->V'.Ii p i cs k
 | [],_,_,hk=>hk
 | c::r,i,_,hk=>⟨h.at hk.1,GM h r (i+1) hk.2⟩
theorem nK {V:View}{p:OA}{x:SV}{k:Prop}:V.Hl p x k↔V.Hl p x True/\k:=by
 cases x with
 | c c=>simp [View.Hl]
 | agg cs=>
  simp only [View.Hl]
  constructor
  ·rintro ⟨a,h1,h2⟩;rw [xX] at h2;exact ⟨⟨a,h1,h2.1⟩,h2.2⟩
  ·rintro ⟨⟨a,h1,h2⟩,hk⟩;exact ⟨a,h1,by rw [xX];exact ⟨h2,hk⟩⟩
 | mV xs=>simp [View.Hl]
theorem Ki {V V':View}(h:V.Le V'){p:OA}{x:SV}{k:Prop}(hk:V.Hl p x k):V'.Hl p x k:=by
 cases x with
 | c c=>obtain ⟨⟨a,h1,h2⟩,h3⟩:=hk;exact ⟨⟨a,h1,h.at h2⟩,h3⟩
 | agg cs=>obtain ⟨a,h1,h2⟩:=hk;exact ⟨a,h1,GM h _ _ h2⟩
 | mV xs=>exact hk
theorem ug.split:∀(s:ug) {F:C->Prop},s.ex F->∃x,F x/\∀G:C->Prop,G x->s.ex G
 | .int _,_,⟨_,h⟩=>⟨_,h,fun _ g=>⟨_,g⟩⟩
 | .bool,_,⟨_,h⟩=>⟨_,h,fun _ g=>⟨_,g⟩⟩
 | .slice,_,⟨_,_,_,h⟩=>⟨_,h,fun _ g=>⟨_,_,_,g⟩⟩
 | .ptr,_,⟨_,h⟩=>⟨_,h,fun _ g=>⟨_,g⟩⟩
 | .str,_,⟨_,h⟩=>⟨_,h,fun _ g=>⟨_,g⟩⟩
 | .any,_,⟨_,h⟩=>⟨_,h,fun _ g=>⟨_,g⟩⟩
theorem lr:∀(l:List ug) {F:List C->Prop},JC l F->∃x,F x/\∀G:List C->Prop,G x->JC l G
 | [],_,h=>⟨_,h,fun _ g=>g⟩
 | s::r,_,h=>by
  obtain ⟨c,h1,h2⟩:=ug.split s h
  obtain ⟨cs,h3,h4⟩:=lr r h1
  exact ⟨c::cs,h3,fun G g=>h2 _ (h4 _ g)⟩
theorem rj.split:∀(s:rj) {F:SV->Prop},s.ex F->∃x,F x/\∀G:SV->Prop,G x->s.ex G
 | .one s,_,h=>by obtain ⟨c,h1,h2⟩:=ug.split s h;exact ⟨.c c,h1,fun G g=>h2 _ g⟩
 | .agg l,_,h=>by obtain ⟨c,h1,h2⟩:=lr l h;exact ⟨.agg c,h1,fun G g=>h2 _ g⟩
theorem oP:∀(l:List rj) {F:List (Bool×List C)->Prop},KD l F->∃x,F x/\∀G:List (Bool×List C)->Prop,G x->KD l G
 | [],_,h=>⟨_,h,fun _ g=>g⟩
 | .one s::r,_,h=>by
  obtain ⟨c,h1,h2⟩:=ug.split s h
  obtain ⟨cs,h3,h4⟩:=oP r h1
  exact ⟨_,h3,fun G g=>h2 _ (h4 _ g)⟩
 | .agg l::r,_,h=>by
  obtain ⟨c,h1,h2⟩:=lr l h
  obtain ⟨cs,h3,h4⟩:=oP r h1
  exact ⟨_,h3,fun G g=>h2 _ (h4 _ g)⟩
theorem Sh.split:∀(s:Sh) {F:SV->Prop},s.ex F->∃x,F x/\∀G:SV->Prop,G x->s.ex G
 | .val s,_,h=>rj.split s h
 | .mV l,_,h=>by obtain ⟨x,h1,h2⟩:=oP l h;exact ⟨_,h1,fun G g=>h2 _ g⟩
 | .none,_,h=>⟨_,h,fun _ g=>g⟩
theorem Sh.mono {s:Sh}{F G:SV->Prop}(h:s.ex F)(k:∀x,F x->G x):s.ex G:=by
 obtain ⟨x,h1,h2⟩:=s.split h
 exact h2 G (k x h1)
theorem tC {l m:List Nat}:G5 l m=true↔∀x∈l,x∈m:=by
 simp only [G5,List.all_eq_true,bT]
theorem sP {op:Op}{x:Operand}(h:x∈op.operands.toList){t:Nat}(e:x=.tmp t):t∈fY op:=by
 subst e
 exact List.mem_filterMap.2 ⟨_,h,rfl⟩
theorem lB {st st2:St}{op:Op}(h:∀t∈fY op,st2.aq t=st.aq t){x:Operand}(hx:x∈op.operands.toList):st2.aU x=st.aU x:=by
 cases x with
 | tmp t=>exact h t (sP hx rfl)
 | _=>rfl
theorem sO {op:Op}{x:Operand}(h:x∈fX op):x∈op.operands.toList:=by
 unfold fX at h
 split at h
 ·simpa [Op.operands] using h
 ·simp at h;subst h;simp [Op.operands]
 ·simp only [Op.operands,Call.operands]
  simp at h ⊢
  rcases h with h|h
  ·exact .inr h
  ·exact .inl h
 ·simpa [Op.operands,Call.operands] using h
 ·cases h
theorem oZ {ρ:Operand->Option SV}:∀{l:List Operand} {xs:List SV},bI ρ l=some xs->∀x∈l,∃v,ρ x=some v/\v∈xs
 | [],_,_,_,hx=>nomatch hx
 | o::r,xs,h,x,hx=>by
  simp only [bI] at h
  split at h
  ·rename_i v l h1 h2
   cases h
   rcases List.mem_cons.1 hx with e|hx
   ·exact ⟨v,by rw [e];exact h1,by simp⟩
   ·obtain ⟨u,hu,hm⟩:=oZ h2 x hx
    exact ⟨u,hu,by simp [hm]⟩
  ·cases h
structure Outcome (P:Program) (T:cF) (m:CM) (h:Hint) (o:Oper) (st:St) (V:View) (R W:List Nat) (K:St->View->Prop) (p:Nat->Option SV) (q:Nat->Option aO):Prop where
 pd:∀t,t∉dB o->p t=none
 qd:∀s,s∉W->q s=none
 next:K (ov p q st) V
 again:∀(st2:St)(V2:View)(K2:St->View->Prop),V.Le V2->(∀t∈fY o.op,st2.aq t=st.aq t)->(∀s∈R,st2.boxes s=st.boxes s)->K2 (ov p q st2) V2->ck P T m h o st2 V2 K2
variable {P:Program} {T:cF} {LF RF:List Nat} {m:CM}
theorem xC {o:Oper}{t:Nat}(h:t∉dB o):o.dst≠some t:=by
 intro e;apply h;simp [dB,e]
theorem IB {o:Oper}{st:St}{V:View}{K:St->View->Prop}{R W:List Nat}{Q0:Q}
  (hnew:∀sc b x,Q0=.new sc b x->dB o=W/\dB o=R)(OY:∀sc s b,Q0=.qn sc s b->s∈W)(happ:cI Q0≠6)
  (hv:qo Q0 o.dst st V K) :
  ∃p q,(∀t,t∉dB o->p t=none)/\(∀s,s∉W->q s=none)/\K (ov p q st) V /\
   ∀(st2:St)(V2:View)(K2:St->View->Prop),V.Le V2->(∀s∈R,st2.boxes s=st.boxes s)->K2 (ov p q st2) V2->qo Q0 o.dst st2 V2 K2:=by
 cases Q0 with
 | fail=>exact hv.elim
 | ret sc x=>
  obtain ⟨h1,h2⟩:=(cY sc _).1 hv
  refine ⟨one o.dst x,fun _=>none,fun t ht=>df (xC ht),fun _ _=>rfl,by rw [←dU];exact h2,?_⟩
  intro st2 V2 K2 _ _ hK
  exact (cY sc _).2 ⟨h1,by rw [dU];exact hK⟩
 | new sc b x=>
  obtain ⟨e1,e2⟩:=hnew _ _ _ rfl
  simp only [qo] at hv ⊢
  cases hd:o.dst with
  | none=>rw [hd] at hv;exact hv.elim
  | some d=>
   have hdl:dB o=[d]:=by simp [dB,hd]
   rw [hd] at hv
   dsimp only at hv ⊢
   split at hv
   ·rename_i hn
    obtain ⟨h1,h2⟩:=(cY sc _).1 hv
    refine ⟨one (some d) (x d),one (some d) b,fun t ht=>df (by intro e;apply ht;rw [hdl];simpa using e.symm),fun s hs=>df (by intro e;apply hs;rw [←e1,hdl];simpa using e.symm),by rw [←vP];exact h2,?_⟩
    intro st2 V2 K2 _ hR hK
    rw [hR d (by rw [←e2,hdl];simp),hn]
    exact (cY sc _).2 ⟨h1,by rw [vP];exact hK⟩
   ·exact hv.elim
 | qn sc s b=>
  simp only [qo] at hv ⊢
  cases hd:o.dst with
  | some d=>rw [hd] at hv;exact hv.elim
  | none=>
   rw [hd] at hv
   dsimp only at hv ⊢
   obtain ⟨h1,h2⟩:=(cY sc _).1 hv
   refine ⟨fun _=>none,one (some s) b,fun _ _=>rfl,fun t ht=>df (by intro e;apply ht;have:=OY _ _ _ rfl;simp at e;rw [←e];exact this),by rw [←Bx];exact h2,?_⟩
   intro st2 V2 K2 _ _ hK
   exact (cY sc _).2 ⟨h1,by rw [Bx];exact hK⟩
 | rd a sh=>
  obtain ⟨x,h1,h2⟩:=sh.split hv
  obtain ⟨h3,h4⟩:=nK.1 h1
  refine ⟨one o.dst x,fun _=>none,fun t ht=>df (xC ht),fun _ _=>rfl,by rw [←dU];exact h4,?_⟩
  intro st2 V2 K2 hle _ hK
  exact h2 _ (nK.2 ⟨Ki hle h3,by rw [dU];exact hK⟩)
 | lZ vs of size sh=>
  obtain ⟨x,h1,h2⟩:=sh.split hv
  refine ⟨one o.dst x,fun _=>none,fun t ht=>df (xC ht),fun _ _=>rfl,by rw [←dU];exact h1.2,?_⟩
  intro st2 V2 K2 hle _ hK
  exact h2 _ ⟨h1.1,by rw [dU];exact hK⟩
 | app a b c d e f g i j=>exact absurd rfl happ
 | oX a b c d e f g i=>exact absurd rfl happ
theorem tj {o:Oper}(h:kL (aW LF RF o.op)=true)(st:St)(V:View)(K:St->View->Prop):cC P T m o st V K=qo (aH T st.aU st.boxes o.op) o.dst st V K:=by
 unfold cC
 split
 ·rename_i f args ts hop
  rw [hop] at h
  exfalso
  cases f with
  | func f=>
   simp only [aW] at h
   split at h
   ·split at h<;>cases h
   ·split at h
    ·cases h
    ·split at h<;>cases h
  | _=>cases h
 ·rename_i recv name args ts hop
  rw [hop] at h
  cases h
 ·rfl
theorem mD {ρ:Operand->Option SV}{bx:Nat->Option aO}{op:Op}:cI (aH T ρ bx op)=2->aW LF RF op=.alloc:=by
 have eU:∀{q:Q} {X:Prop},cI q<=1->cI q=2->X:=by intro q X h h';omega
 unfold aH
 split
 case h_8=>
  split
  ·intro h;rcases ph (bx:=bx) with h'|h'|h'|h'<;>(rw [h'] at h;cases h)
  ·exact eU (Nat.zero_le _)
 case h_9=>
  split
  ·intro h;rcases mG (bx:=bx) with h'|h'<;>(rw [h'] at h;cases h)
  ·exact eU (Nat.zero_le _)
 case h_11=>
  split
  ·split
   ·split
    ·exact eU nV
    ·exact eU (Nat.zero_le _)
   ·exact eU nV
  ·exact eU (Nat.zero_le _)
 case h_17=>exact fun _=>rfl
 case h_18=>
  split
  ·split
   ·split
    ·exact eU tD
    ·exact eU (Nat.zero_le _)
   ·exact eU (Nat.zero_le _)
  ·exact eU (Nat.zero_le _)
 case h_21=>
  split
  ·exact eU kU
  ·exact eU (Nat.zero_le _)
 case h_23 c=>
  split
  ·intro h
   exfalso
   split at h<;>(try split at h)<;>(try split at h)<;>(try split at h)<;>first|(rcases kT (bx:=bx) with h'|h'<;>(rw [h'] at h;cases h))|cases h
  ·split
   ·intro h;rcases mF (T:=T) (bx:=bx) with h'|h'<;>(rw [h'] at h;cases h)
   ·exact eU (Nat.zero_le _)
  ·split
   ·split
    ·exact eU nW
    ·exact eU (Nat.zero_le _)
   ·exact eU (Nat.zero_le _)
  ·exact eU (Nat.zero_le _)
 all_goals
  first
  | exact fun _=>rfl
  | exact eU (Nat.zero_le _)
  | ((repeat' split)<;>first|exact eU (Nat.zero_le _)|exact eU (Nat.le_refl _)|exact eU ma|(unfold tg;(repeat' split)<;>first|exact eU (Nat.zero_le _)|exact eU (Nat.le_refl _)))
theorem wv {st st2:St}{op:Op}(h:∀t∈fY op,st2.aq t=st.aq t):bI st2.aU (fX op)=bI st.aU (fX op):=
 dE _ fun _ hx=>lB h (sO hx)
theorem lD {h:Hint}{o:Oper}{st:St}{V:View}{K:St->View->Prop}{R W:List Nat}(hq:kL (aW LF RF o.op)=true)(hrw:nP (aW LF RF o.op) h (dB o)=some (R,W))
  (hv:ck P T m h o st V K):∃p q,Outcome P T m h o st V R W K p q:=by
 have core:(∀st2:St,(∀t∈fY o.op,st2.aq t=st.aq t)->(∀s∈R,st2.boxes s=st.boxes s)->aH T st2.aU st2.boxes o.op=aH T st.aU st.boxes o.op) ->
   (∀sc b x,aH T st.aU st.boxes o.op=.new sc b x->dB o=W/\dB o=R)->(∀sc s b,aH T st.aU st.boxes o.op=.qn sc s b->s∈W) ->
   (∀(st2:St)(V2:View)(K2:St->View->Prop),(∀t∈fY o.op,st2.aq t=st.aq t)->cC P T m o st2 V2 K2->ck P T m h o st2 V2 K2) ->
   cC P T m o st V K->∃p q,Outcome P T m h o st V R W K p q:=by
  intro he hn hu hb hv
  rw [tj hq] at hv
  obtain ⟨p,q,h1,h2,h3,h4⟩:=IB (R:=R) (W:=W) hn hu (fun hQ=>by
   obtain ⟨cl,hop,nA⟩:=(eN (T:=T) (ρ:=st.aU) (bx:=st.boxes) (op:=o.op)).2.2 hQ
   rw [hop] at hq
   obtain ⟨C5,args,ts⟩:=cl
   dsimp only at nA
   subst nA
   cases hq) hv
  refine ⟨p,q,h1,h2,h3,fun st2 V2 K2 hle hsl hbx hK=>?_⟩
  refine hb st2 V2 K2 hsl ?_
  rw [tj hq,he st2 hsl hbx]
  exact h4 st2 V2 K2 hle hbx hK
 have xS:aW LF RF o.op=.pure\/aW LF RF o.op=.alloc->h=.free->(aW LF RF o.op=.alloc->R=dB o/\W=dB o)->∃p q,Outcome P T m h o st V R W K p q:=by
  intro hc hf hd
  subst hf
  refine core (fun st2 hs _=>?_) (fun sc b x hQ=>?_) (fun sc s b hQ=>?_) (fun _ _ _ _ hb=>hb) hv
  ·rw [GG (bx':=st.boxes) hc]
   exact kK fun x hx=>lB hs hx
  ·have:=hd (mD (by rw [hQ];rfl));exact ⟨this.2.symm,this.1.symm⟩
  ·rcases (eN (T:=T) (ρ:=st.aU) (bx:=st.boxes) (op:=o.op)).1 (by rw [hQ];rfl) with ⟨t,y,x,hop⟩|⟨⟨C5,args,ts⟩,hop,nA⟩
   ·rw [hop] at hc
    rcases hc with hc|hc<;>cases hc
   ·dsimp only at nA
    subst nA
    rw [hop] at hc
    rcases hc with hc|hc<;>cases hc
 generalize hc:aW LF RF o.op=c at hrw hq xS
 cases c with
 | pure=>
  cases h with
  | free=>exact xS (.inl rfl) rfl (fun e=>by cases e)
  | own l=>cases hrw
 | alloc=>
  cases h with
  | free=>
   simp only [nP,Option.some.injEq,Prod.mk.injEq] at hrw
   exact xS (.inr rfl) rfl (fun _=>⟨hrw.1.symm,hrw.2.symm⟩)
  | own l=>cases hrw
 | load=>
  cases h with
  | free=>cases hrw
  | own l=>
   simp only [nP,Option.some.injEq,Prod.mk.injEq] at hrw
   obtain ⟨rfl,rfl⟩:=hrw
   have hop:∃t a,o.op=.load t a:=by
    generalize o.op=op at hc
    cases op with
    | load t a=>exact ⟨t,a,rfl⟩
    | call c=>obtain ⟨C5,args,ts⟩:=c;cases C5 with
     | builtin b=>cases b<;>cases hc
     | value f=>cases f with
      | func f=>simp only [aW] at hc;split at hc<;>(try split at hc)<;>(try split at hc)<;>(try split at hc)<;>cases hc
      | _=>cases hc
     | _=>cases hc
    | _=>cases hc
   obtain ⟨t,a,hop⟩:=hop
   unfold ck at hv
   dsimp only at hv
   split at hv
   ·rename_i xs hxs
    split at hv
    ·rename_i hsub
     have eR:∀v,st.aU a=some v->∀s∈v.ids,s∈l:=by
      intro v sD s hs
      rw [tC] at hsub
      apply hsub
      rw [hop] at hxs
      obtain ⟨u,hu,hm⟩:=oZ hxs a (by simp [fX])
      rw [hop]
      simp only [dN]
      rw [sD] at hu
      cases hu
      exact List.mem_flatMap.2 ⟨_,hm,hs⟩
     refine core (fun st2 hs hb=>?_) (fun sc b x hQ=>?_) (fun sc s b hQ=>?_) (fun st2 V2 K2 hs hb=>?_) hv
     ·rw [hop] at hs ⊢
      rw [kK (ρ':=st.aU) fun x hx=>lB hs hx]
      simp only [aH]
      split
      ·rename_i i v hi EV
       exact (GJ fun s hs'=>hb s (eR v EV s hs')).symm
      ·rfl
     ·have:=mD (LF:=LF) (RF:=RF) (op:=o.op) (T:=T) (ρ:=st.aU) (bx:=st.boxes) (by rw [hQ];rfl)
      rw [hop] at this;cases this
     ·rcases (eN (T:=T) (ρ:=st.aU) (bx:=st.boxes) (op:=o.op)).1 (by rw [hQ];rfl) with ⟨t,y,x,hop'⟩|⟨c,hop',-⟩<;>(rw [hop] at hop';cases hop')
     ·unfold ck
      dsimp only
      rw [wv hs,hxs]
      dsimp only
      have:dN st2.boxes o.op (xs.flatMap SV.ids)=dN st.boxes o.op (xs.flatMap SV.ids):=by rw [hop];rfl
      rw [this,hsub]
      exact hb
    ·exact hv.elim
   ·exact hv.elim
 | store=>
  cases h with
  | free=>cases hrw
  | own l=>
   simp only [nP,Option.some.injEq,Prod.mk.injEq] at hrw
   obtain ⟨rfl,rfl⟩:=hrw
   have hop:∃t a x,o.op=.store t a x:=by
    generalize o.op=op at hc
    cases op with
    | store t a x=>exact ⟨t,a,x,rfl⟩
    | call c=>obtain ⟨C5,args,ts⟩:=c;cases C5 with
     | builtin b=>cases b<;>cases hc
     | value f=>cases f with
      | func f=>simp only [aW] at hc;split at hc<;>(try split at hc)<;>(try split at hc)<;>(try split at hc)<;>cases hc
      | _=>cases hc
     | _=>cases hc
    | _=>cases hc
   obtain ⟨t,a,y,hop⟩:=hop
   unfold ck at hv
   dsimp only at hv
   split at hv
   ·rename_i xs hxs
    split at hv
    ·rename_i hsub
     have eR:∀v,st.aU a=some v->∀s∈v.ids,s∈l:=by
      intro v sD s hs
      rw [tC] at hsub
      apply hsub
      rw [hop] at hxs
      obtain ⟨u,hu,hm⟩:=oZ hxs a (by simp [fX])
      rw [hop]
      simp only [dN]
      rw [sD] at hu
      cases hu
      exact List.mem_flatMap.2 ⟨_,hm,hs⟩
     refine core (fun st2 hs hb=>?_) (fun sc b x hQ=>?_) (fun sc s b hQ=>?_) (fun st2 V2 K2 hs hb=>?_) hv
     ·rw [hop] at hs ⊢
      rw [kK (ρ':=st.aU) fun x hx=>lB hs hx]
      simp only [aH]
      split
      ·rename_i i v w hi EV hw
       exact (Ez fun s hs'=>hb s (eR v EV s hs')).symm
      ·rfl
     ·have:=mD (LF:=LF) (RF:=RF) (op:=o.op) (T:=T) (ρ:=st.aU) (bx:=st.boxes) (by rw [hQ];rfl)
      rw [hop] at this;cases this
     ·rw [hop] at hQ
      simp only [aH] at hQ
      split at hQ
      ·rename_i i v w hi EV hw
       exact eR v EV s (Cm hQ)
      ·cases hQ
     ·unfold ck
      dsimp only
      rw [wv hs,hxs]
      dsimp only
      have:dN st2.boxes o.op (xs.flatMap SV.ids)=dN st.boxes o.op (xs.flatMap SV.ids):=by rw [hop];rfl
      rw [this,hsub]
      exact hb
    ·exact hv.elim
   ·exact hv.elim
 | _=>cases hq
end Go.bu
namespace Go.bu
variable {P:Program} {T:cF} {LF RF:List Nat} {m:CM}
def Good (p:Nat->Option SV)(q:Nat->Option aO)(W D:List Nat)(st:St)(V:View)(K:St->View->Prop):St->View->Prop:=
 fun st2 V2=>V.Le V2/\(∀t,t∉D->st2.aq t=st.aq t)/\(∀s,s∉W->st2.boxes s=st.boxes s)/\K (ov p q st2) V2
theorem mZ {bx bx':Nat->Option aO}:∀{l:List Nat},(∀s∈l,bx' s=bx s)->l.flatMap (jx bx')=l.flatMap (jx bx)
 | [],_=>rfl
 | s::r,h=>by
  simp only [List.flatMap_cons]
  rw [mZ fun s hs=>h s (by simp [hs])]
  simp only [jx]
  rw [h s (by simp)]
theorem kM {bx bx':Nat->Option aO}:∀(n:Nat)(l:List Nat),(∀s∈reach bx n l,bx' s=bx s)->reach bx' n l=reach bx n l
 | 0,_,_=>rfl
 | n+1,l,h=>by
  have hl:∀s∈l,bx' s=bx s:=fun s hs=>h s (dP (n+1) l s hs)
  simp only [reach] at h ⊢
  rw [mZ hl]
  exact kM n _ h
theorem uA {bx bx':Nat->Option aO}{l:List Nat}(h:∀s∈l,bx' s=bx s):fI bx' l=fI bx l:=by
 unfold fI
 rw [Bool.eq_iff_iff,List.all_eq_true,List.all_eq_true]
 constructor
 ·intro g s hs;have:=g s hs;simp only [jx] at this ⊢;rw [h s hs] at this;exact this
 ·intro g s hs;have:=g s hs;simp only [jx] at this ⊢;rw [h s hs];exact this
theorem gH:∀{L:List Nat} {β:Nat->Nat} {k k':(Nat->Nat)->Prop},(∀β,k β->k' β)->ki L β k->ki L β k'
 | [],_,_,_,h,g=>h _ g
 | _::_,_,_,_,h,g=>fun b=>gH h (g b)
theorem sU {bx bx':Nat->Option aO}{b:aO}{β:Nat->Nat}{s:Nat}:∀{r:List Nat} {k k':Prop},(∀t∈r,bx' t=bx t)->(k->k')->I5 bx b β s r k->I5 bx' b β s r k'
 | [],_,_,_,h,g=>h g
 | t::r,k,k',hb,h,g=>by
  have hr:=fun t ht=>hb t (List.mem_cons_of_mem _ ht)
  simp only [I5] at g ⊢
  rw [hb t (by simp)]
  cases hbq:Nat.beq s t with
  | true=>rw [hbq] at g;exact sU hr h g
  | false=>
   rw [hbq] at g
   simp only [cond_false] at g ⊢
   split at g
   ·exact fun hn=>sU hr h (g hn)
   ·exact g
theorem gW {bx bx':Nat->Option aO}{β:Nat->Nat}{V:View}:∀{L:List Nat} {k k':Prop},(∀s∈L,bx' s=bx s)->((∀s∈L,∃b,bx s=some b/\(b.live->V.H (β s)))->k->k')->gg bx β V L k->gg bx' β V L k'
 | [],_,_,_,h,g=>h (fun s hs=>absurd hs (by simp)) g
 | s::r,k,k',hb,h,g=>by
  have hr:=fun t ht=>hb t (List.mem_cons_of_mem _ ht)
  simp only [gg] at g ⊢
  rw [hb s (by simp)]
  split at g
  ·rename_i b hbs
   refine fun h1 h2=>gW hr (fun hf=>sU hr (fun hk=>h (fun t ht=>?_) hk)) (g h1 h2)
   rcases List.mem_cons.1 ht with rfl|ht
   ·exact ⟨b,hbs,eo.1 h2⟩
   ·exact hf t ht
  ·exact g
theorem iz {mv:Option (Nat×Nat)}:∀{cs zs:List C} {K K':List C->Prop},(∀c,K c->K' c)->jO mv cs zs K->jO mv cs zs K'
 | [],_,_,_,h,g=>h _ g
 | _::_,[],_,_,_,g=>g.elim
 | c::r,z::zr,K,K',h,g=>by
  simp only [jO] at g ⊢
  split at g
  ·split at g
   ·split at g
    ·obtain ⟨n,c,g⟩:=g
     exact ⟨n,c,iz (fun cs hk=>h _ hk) g⟩
    ·exact g.elim
   ·exact g.elim
  ·split at g
   ·obtain ⟨v,h1,h2⟩:=ug.split _ g
    rename_i hc
    rw [hc] at *
    exact h2 _ (iz (fun cs hk=>h _ hk) h1)
   ·exact iz (fun cs hk=>h _ hk) g
variable {p:Nat->Option SV} {q:Nat->Option aO}
theorem iC {mv:Option (Nat×Nat)}{β:Nat->Nat}{V:View}{W:List Nat}:∀{L:List Nat} {st:St} {k k':St->Prop},(∀s∈L,q s=none/\s∈W) ->
  (∀st',(∀t,st'.aq t=st.aq t)->(∀s,s∉W->st'.boxes s=st.boxes s)->k (ov p q st')->k' st')->dD T mv β V L (ov p q st) k->dD T mv β V L st k'
 | [],st,k,k',_,h,g=>h st (fun _=>rfl) (fun _ _=>rfl) g
 | s::r,st,k,k',hq,h,g=>by
  obtain ⟨JO,LG⟩:=hq s (by simp)
  have hr:∀s∈r,q s=none/\s∈W:=fun s hs=>hq s (by simp [hs])
  have JD:∀b:aO,∀k1:St->Prop,(∀st',k1 st'=k st')->dD T mv β V r ((ov p q st).box s b) k1->dD T mv β V r (st.box s b) k':=by
   intro b k1 hk1 g
   rw [jU JO] at g
   refine iC hr (fun st' h1 h2 hk=>h st' h1 (fun s' hs'=>?_) (by rw [←hk1];exact hk)) g
   rw [h2 s' hs',ai,if_neg (fun e=>hs' (by rw [e];exact LG))]
  simp only [dD] at g ⊢
  rw [ch JO] at g
  split at g
  ·rename_i cs ty hb
   split at g
   ·rename_i i hi
    exact iz (fun cs' hk=>⟨hk.1,JD _ _ (fun _=>rfl) hk.2⟩) g
   ·exact g
  ·obtain ⟨vs,h1,h2⟩:=g
   exact ⟨vs,h1,JD _ _ (fun _=>rfl) h2⟩
  ·obtain ⟨h0,vs,h3,h1,h2⟩:=g
   exact ⟨h0,vs,h3,h1,JD _ _ (fun _=>rfl) h2⟩
  ·exact g
theorem qW (V:View)(l:List Nat):V.Le (V.bf l):=fun _ _ h=>h
theorem Dj (V:View):V.Le V.shut:=fun _ _ h=>h
theorem F3 {V V' dX:View}{P:Prop}{b:Nat}(h:V.Le dX)(h':V.Le V')(hb:P->V'.w.heap.size<=b\/V'.H b):V.Le (dX.shut.iB P b):=by
 intro x o hx
 obtain ⟨h1,h2⟩:=h x o hx
 obtain ⟨h3,h4⟩:=h' x o hx
 refine ⟨fun hh=>?_,h2⟩
 rcases hh with hh|⟨hp,e,-⟩
 ·exact h1 hh
 ·subst e
  rcases hb hp with h5|h5
  ·have:=az h4;omega
  ·exact h3 h5
theorem Gf {m:Option Nat}{d:Nat}:dZ m d=d\/dZ m d=d+200000:=by
 cases m with
 | none=>exact .inl rfl
 | some m=>
  simp only [dZ,lI]
  cases Nat.blt m 100000 with
  | true=>exact .inl rfl
  | false=>exact .inr rfl
theorem mw {give:Bool}{sh:Sh}{L:List Nat}{mm:Option Nat}{d:Nat}{ety:TypeId}{β:Nat->Nat}{st:St}{V V' dX:View}{K K':St->View->Prop}{W D:List Nat}{r':Value}
  (hL:∀s∈L,q s=none/\s∈W)(hm:∀k,mm=some k->k∈L)(hp:p d=none/\d∈D)(hq:q (dZ mm d)=none/\dZ mm d∈W)(hV:V.Le V')(hV2:V.Le dX)
  (hlv:∀s∈L,∃b,st.boxes s=some b/\(b.live->V'.H (β s)))(hK:∀s2 V2,Good p q W D st V K s2 V2->K' s2 V2)
  (h:bV T give sh L mm d ety β (ov p q st) V' K r' dX):bV T give sh L mm d ety β st V' K' r' dX:=by
 unfold bV at h ⊢
 obtain ⟨b',vs',h1,h2,h3⟩:=h
 have h2':vs'≠[]->V'.w.heap.size<=b'\/uf mm st β b':=by
  intro hne
  refine (h2 hne).imp id fun h=>?_
  unfold uf at h ⊢
  cases mm with
  | none=>exact h
  | some k=>
   dsimp only at h ⊢
   rw [ch (hL k (hm k rfl)).1] at h
   exact h
 have oU:vs'≠[]->V'.w.heap.size<=b'\/V'.H b':=by
  intro hne
  refine (h2' hne).imp id fun h=>?_
  unfold uf at h
  cases mm with
  | none=>exact h.elim
  | some k=>
   dsimp only at h
   obtain ⟨b0,hb0,hHk⟩:=hlv k (hm k rfl)
   rw [hb0] at h
   obtain ⟨cs,ty⟩:=b0
   cases cs with
   | lit cs=>have h:b'=β k:=h;rw [h];exact hHk cx
   | row cs=>have h:b'=β k:=h;rw [h];exact hHk bS
   | aT vs=>have h:vs≠[]/\b'=β k:=h;rw [h.2];exact hHk (eL h.1)
 refine ⟨b',vs',h1,h2',Sh.mono h3 fun x hx=>⟨hx.1,?_⟩⟩
 have e1:(ny mm ety (ov p q st)).box (dZ mm d) ⟨.aT vs',ety⟩=ov p q ((ny mm ety st).box (dZ mm d) ⟨.aT vs',ety⟩):=by
  cases mm with
  | none=>exact jU hq.1
  | some k=>
   simp only [ny]
   rw [jU (hL k (hm k rfl)).1,jU hq.1]
 have hx2:=hx.2
 rw [e1] at hx2
 have hsub:∀s∈Dk mm L,q s=none/\s∈W:=by
  intro s hs
  cases mm with
  | none=>exact hL s hs
  | some k=>exact hL s (sQ.1 hs).1
 refine iC hsub (fun st' g1 g2 hk=>?_) hx2
 rw [iQ (fun k hk=>by cases hk;exact hp.1)] at hk
 refine hK _ _ ⟨F3 hV2 hV oU,?_,?_,hk⟩
 ·intro t ht
  rw [cN,if_neg (fun e=>ht (by rw [e];exact hp.2)),g1]
  cases mm<;>rfl
 ·intro s hs
  show st'.boxes s=_
  rw [g2 s hs,ai,if_neg (fun e=>hs (by rw [e];exact hq.2))]
  cases mm with
  | none=>rfl
  | some k=>simp only [ny];rw [ai,if_neg (fun e=>hs (by rw [e];exact (hL k (hm k rfl)).2))]
theorem F_ {bx:Nat->Option aO}{L:List Nat}(hcl:fI bx L=true):∀k,k∈nH bx L->k∈L:=by
 intro k hk
 unfold nH at hk
 obtain ⟨s,hs,hk⟩:=List.mem_flatMap.1 (bz.1 hk)
 split at hk
 ·rename_i cs ty hb
  refine fO hcl hs hb k ?_
  have:∀cs:List C,k∈my cs->k∈cs.flatMap C.ids:=by
   intro cs
   induction cs with
   | nil=>exact fun h=>nomatch h
   | cons c r ih=>
    intro h
    rw [List.flatMap_cons,List.mem_append]
    cases c<;>simp only [my,List.mem_cons] at h<;>first
     | exact .inr (ih h)
     | (rcases h with h|h
        ·left;simp [C.ids,h]
        ·exact .inr (ih h))
  exact this cs hk
 ·cases hk
theorem sk {xs:List SV}:∀k,k∈jQ xs->k∈xs.flatMap SV.ids:=by
 intro k
 induction xs with
 | nil=>exact fun h=>nomatch h
 | cons x r ih=>
  intro h
  rw [List.flatMap_cons,List.mem_append]
  unfold jQ at h
  split at h
  ·rename_i heq;cases heq
  ·rename_i s n c r' heq;cases heq;exact .inl h
  ·rename_i s n c r' heq;cases heq;exact .inl h
  ·cases h
  ·rename_i heq;cases heq;exact .inr (ih h)
theorem pU {bx bx':Nat->Option aO}{L:List Nat}(h:∀s∈L,bx' s=bx s):nH bx' L=nH bx L:=by
 unfold nH
 congr 1
 induction L with
 | nil=>rfl
 | cons s r ih=>simp only [List.flatMap_cons];rw [h s (by simp),ih fun s hs=>h s (by simp [hs])]
theorem gy {st:St}{mm:Option Nat}{d:Nat}(h:q (dZ mm d)=none):iP (ov p q st) mm d=iP st mm d:=by
 unfold iP;rw [ch h]
theorem pR {bx bx':Nat->Option aO}{β:Nat->Nat}{N:Nat}{L:List Nat}(h:∀s∈L,bx' s=bx s):L.map (c_ bx' β N)=L.map (c_ bx β N):=
 List.map_congr_left fun s hs=>by unfold c_;rw [h s hs]
theorem gF {f:FuncId}{xs:List SV}{ty:TypeId}{dst:Option Nat}{st:St}{V:View}{K:St->View->Prop}{W D:List Nat}
  (hm:m=.none\/((m=.bf\/m=.give)/\(∀s∈reach (ov p q st).boxes 3 (dedup (xs.flatMap SV.ids)),q s=none/\s∈W)/\∀k,dst=some k->∀mm,q (dZ mm k)=none/\dZ mm k∈W))(hd:∀k,dst=some k->p k=none/\k∈D)
  {K':St->View->Prop}(hK:∀s2 V2,Good p q W D st V K s2 V2->K' s2 V2)(hv:ew P T m f xs ty dst (ov p q st) V K):ew P T m f xs ty dst st V K':=by
 have hput:∀(st':St)(x:SV),(∀t,st'.aq t=st.aq t)->∀t,t∉D->(st'.put dst x).aq t=st.aq t:=by
  intro st' x h t ht
  cases dst with
  | none=>exact h t
  | some d=>rw [cN,if_neg (fun e=>ht (by rw [e];exact (hd d rfl).2))];exact h t
 have hbx:∀(st':St)(x:SV),(st'.put dst x).boxes=st'.boxes:=by intro st' x;cases dst<;>rfl
 unfold ew at hv ⊢
 split at hv
 ·exact hv.elim
 ·rename_i sh hsh
  have hre:∀L,reach (ov p q st).boxes 3 (dedup (xs.flatMap SV.ids))=L->(∀s∈L,q s=none)->reach st.boxes 3 (dedup (xs.flatMap SV.ids))=L:=by
   intro L hL TB
   rw [←hL]
   exact kM 3 _ fun s hs=>(ch (TB s (by rw [←hL];exact hs))).symm
  have IZ:∀s∈xs.flatMap SV.ids,s∈reach (ov p q st).boxes 3 (dedup (xs.flatMap SV.ids)):=fun s hs=>dP 3 _ s (bz.2 hs)
  generalize hr:reach (ov p q st).boxes 3 (dedup (xs.flatMap SV.ids))=L at hv hm IZ
  cases L with
  | nil=>
   rw [hre _ hr (fun s hs=>nomatch hs)]
   have plain:(∀V':View,V.Le V'->ab P f (aQ (fun _=>0) xs) V' fun r dX=>sh.ex fun x=>r=x.den (fun _=>0)/\K ((ov p q st).put dst x) dX) ->
     ∀V':View,V.Le V'->ab P f (aQ (fun _=>0) xs) V' fun r dX=>sh.ex fun x=>r=x.den (fun _=>0)/\K' (st.put dst x) dX:=by
    intro hv V' hV'
    refine (hv V' hV').mono fun r dX hle hk=>Sh.mono hk fun x hx=>⟨hx.1,?_⟩
    have h2:=hx.2
    rw [iQ (fun k hk=>(hd k hk).1)] at h2
    exact hK _ _ ⟨hV'.trans hle,hput st x fun _=>rfl,fun s _=>by rw [hbx],h2⟩
   rcases hm with rfl|⟨rfl|rfl,-,hnb⟩
   ·exact plain hv
   ·exact plain hv
   ·dsimp only at hv ⊢
    split at hv
    ·rename_i d ety hgt
     rw [gy (hnb d rfl Option.none).1] at hv
     split at hv
     ·exact hv.elim
     ·rename_i hfree
      intro V' hV'
      refine (hv V' hV').mono fun r dX hle hk=>?_
      exact mw (W:=W) (D:=D) (fun s hs=>absurd hs (by simp)) (fun k hk=>by cases hk) (hd d rfl) (hnb d rfl Option.none) hV' (hV'.trans hle) (fun s hs=>absurd hs (by simp)) hK hk
    ·exact hv.elim
  | cons s r=>
   dsimp only at hv
   split at hv
   ·exact hv.elim
   ·rename_i hcl
    have bf:m=.bf\/m=.give->(∀t∈s::r,q t=none/\t∈W)->(∀k,dst=some k->∀mm,q (dZ mm k)=none/\dZ mm k∈W) ->
      ∀{give:Bool} {mm:Option Nat} {d:Nat} {ety:TypeId},dst=some d->(∀k,mm=some k->k∈s::r) ->
      (∀V':View,V.Le V'->ki (s::r) (fun _=>0) fun β=>gg (ov p q st).boxes β V' (s::r) (ab P f (aQ β xs) (V'.bf ((s::r).map (c_ (ov p q st).boxes β V'.w.heap.size))) (bV T give sh (s::r) mm d ety β (ov p q st) V' K))) ->
      ∀V':View,V.Le V'->ki (s::r) (fun _=>0) fun β=>gg st.boxes β V' (s::r) (ab P f (aQ β xs) (V'.bf ((s::r).map (c_ st.boxes β V'.w.heap.size))) (bV T give sh (s::r) mm d ety β st V' K')):=by
     intro _ hmm hnb give mm d ety hdst OS hv V' hV'
     have zL:∀t∈s::r,st.boxes t=(ov p q st).boxes t:=fun t ht=>(ch (hmm t ht).1).symm
     refine gH (fun β hb=>?_) (hv V' hV')
     rw [pR (bx:=(ov p q st).boxes) zL]
     refine gW (bx:=(ov p q st).boxes) zL (fun hH hfn=>?_) hb
     refine hfn.mono fun r' dX hle hk=>?_
     have hle2:V.Le dX:=(hV'.trans (qW V' _)).trans hle
     exact mw hmm OS (hd d hdst) (hnb d hdst mm) hV' hle2 (fun t ht=>by rw [zL t ht];exact hH t ht) hK hk
    have base:m=.bf\/m=.give->(∀t∈s::r,q t=none/\t∈W)/\(∀k,dst=some k->∀mm,q (dZ mm k)=none/\dZ mm k∈W):=by
     intro h
     rcases hm with rfl|⟨-,h1,h2⟩
     ·rcases h with h|h<;>cases h
     ·exact ⟨h1,h2⟩
    have QN:(∀t∈s::r,q t=none/\t∈W)->fI st.boxes (s::r)=true:=fun hmm=>by
     rw [uA (bx:=(ov p q st).boxes) (fun t ht=>(ch (hmm t ht).1).symm)];exact hcl
    split at hv
    ·exact hv.elim
    ·exact hv.elim
    ·
     obtain ⟨hmm,hnb⟩:=base (.inr rfl)
     rw [hre _ hr (fun t ht=>(hmm t ht).1)]
     dsimp only
     rw [QN hmm]
     dsimp only
     have hmv:=pU (bx:=(ov p q st).boxes) (bx':=st.boxes) (L:=s::r) (fun t ht=>(ch (hmm t ht).1).symm)
     rw [hmv]
     split at hv
     ·rename_i d ety h1 h2 h3
      rw [gy (hnb d rfl _).1] at hv
      split at hv
      ·exact hv.elim
      ·rename_i hfree
       exact bf (.inr rfl) hmm hnb rfl (fun k hk=>by cases hk) hv
     ·rename_i d ety k h1 h2 h3
      rw [gy (hnb d rfl _).1] at hv
      split at hv
      ·exact hv.elim
      ·rename_i hfree
       exact bf (.inr rfl) hmm hnb rfl (fun j hj=>by cases hj;exact IZ k (sk k (by rw [h2];simp))) hv
     ·exact hv.elim
    ·
     obtain ⟨hmm,hnb⟩:=base (.inl rfl)
     rw [hre _ hr (fun t ht=>(hmm t ht).1)]
     dsimp only
     rw [QN hmm]
     dsimp only
     have zL:∀t∈s::r,st.boxes t=(ov p q st).boxes t:=fun t ht=>(ch (hmm t ht).1).symm
     have hmv:=pU (bx:=(ov p q st).boxes) (bx':=st.boxes) (L:=s::r) zL
     rw [hmv]
     split at hv
     ·intro V' hV'
      refine gH (fun β hb=>?_) (hv V' hV')
      rw [pR (bx:=(ov p q st).boxes) zL]
      refine gW (bx:=(ov p q st).boxes) zL (fun _ hfn=>?_) hb
      refine hfn.mono fun r' dX hle hk=>Sh.mono hk fun x hx=>⟨hx.1,?_⟩
      refine iC hmm (fun st' h1 h2 hk=>?_) hx.2
      rw [iQ (fun k hk=>(hd k hk).1)] at hk
      exact hK _ _ ⟨((hV'.trans (qW V' _)).trans hle).trans (Dj _),hput st' x h1,fun t ht=>by rw [hbx];exact h2 t ht,hk⟩
     ·rename_i k hk
      have JJ:k∈s::r:=F_ hcl k (by rw [hk];simp)
      have hty:ja st.boxes k=ja (ov p q st).boxes k:=by unfold ja;rw [zL k JJ]
      rw [hty]
      split at hv
      ·rename_i d ety hbt
       rw [gy (hnb d rfl _).1] at hv
       split at hv
       ·exact hv.elim
       ·rename_i hfree
        exact bf (.inl rfl) hmm hnb rfl (fun j hj=>by cases hj;exact JJ) hv
      ·exact hv.elim
     ·exact hv.elim
    ·rcases hm with h|h
     ·cases h
     ·rcases h.1 with h|h<;>cases h
theorem Au {bx:Nat->Option aO}:∀(n:Nat) {l l':List Nat},(∀x∈l,x∈l')->∀x∈reach bx n l,x∈reach bx n l'
 | 0,_,_,h,x,hx=>h x hx
 | n+1,l,l',h,x,hx=>by
  simp only [reach] at hx ⊢
  refine Au n (fun y hy=>?_) x hx
  rw [bz,List.mem_append] at hy ⊢
  rcases hy with hy|hy
  ·exact .inl (h y hy)
  ·obtain ⟨z,hz,hy⟩:=List.mem_flatMap.1 hy
   exact .inr (List.mem_flatMap.2 ⟨z,h z hz,hy⟩)
theorem qe {f:FuncId}{xs:List SV}{ty:TypeId}{dst:Option Nat}{st:St}{V:View}{K:St->View->Prop}{W D:List Nat}
  (hm:m=.none\/((m=.bf\/m=.give)/\(∀s∈reach (ov p q st).boxes 3 (dedup (xs.flatMap SV.ids)),q s=none/\s∈W)/\∀k,dst=some k->∀mm,q (dZ mm k)=none/\dZ mm k∈W))(hd:∀k,dst=some k->p k=none/\k∈D)
  {K':St->View->Prop}(hK:∀s2 V2,Good p q W D st V K s2 V2->K' s2 V2)(hv:iU P T m f xs ty dst (ov p q st) V K):iU P T m f xs ty dst st V K':=by
 have hm0:=hm
 cases m with
 | bf=>
  obtain ⟨h1,h2⟩:(∀s∈reach (ov p q st).boxes 3 (dedup (xs.flatMap SV.ids)),q s=none/\s∈W)/\∀k,dst=some k->∀mm,q (dZ mm k)=none/\dZ mm k∈W:=by
   rcases hm with h|⟨-,h1,h2⟩
   ·cases h
   ·exact ⟨h1,h2⟩
  unfold iU at hv ⊢
  dsimp only at hv ⊢
  rw [nT (bx:=st.boxes) (bx':=(ov p q st).boxes) (fun s hs=>ch (h1 s (dP 3 _ s (bz.2 hs))).1)] at hv
  split at hv
  ·rename_i vs c xs' e
   exact ⟨fun he=>⟨(hv.1 he).1,gF (.inr ⟨.inl rfl,fun s hs=>h1 s (Au 3 (fun x hx=>bz.2 (tB e x (bz.1 hx))) s hs),h2⟩) hd hK (hv.1 he).2⟩,fun he=>gF hm0 hd hK (hv.2 he)⟩
  ·exact gF hm0 hd hK hv
 | _=>exact gF hm0 hd hK hv
theorem xR {p2:Nat->Option SV}{q2:Nat->Option aO}{st:St}(hp:∀t,p t=none\/p2 t=none)(hq:∀t,q t=none\/q2 t=none):ov p q (ov p2 q2 st)=ov p2 q2 (ov p q st):=by
 unfold ov
 congr 1
 ·funext t
  dsimp only
  rcases hp t with h|h<;>rw [h]
 ·funext t
  dsimp only
  rcases hq t with h|h<;>rw [h]
def wZ:Q->Option Nat
 | .app old _ _ _ _ _ _ _ _=>old
 | .oX s _ _ _ _ _ _ _=>some s
 | _=>none
def Ds (T:cF)(bx:Nat->Option aO)(l:Option (List SV))(ts:List TypeId):Q:=
 match l,ts with
 | some [b,x],[t,t']=>match ax T t,ax T t' with
  | some i,some i'=>match i.k,i'.k with
   | .slice e,.slice _=>match ax T e with
    | some ei=>bN bx e ei b x
    | none=>.fail
   | _,_=>.fail
  | _,_=>.fail
 | _,_=>.fail
def w_ (bx:Nat->Option aO)(sz:Nat)(x:SV):Option (OA×Nat ⊕ List Value):=
 match x with
 | .c (.v (.slice a k _))=>some (.inl (a,k))
 | .c (.kr s o k _)=>match bx s with
  | some ⟨.row ws,_⟩=>some (.inr (iG ws o (k*sz)))
  | _=>match dJ bx s with
   | some ws=>if Nat.ble (o+k*sz) ws.length then some (.inr ((ws.drop o).take (k*sz))) else none
   | none=>none
 | _=>none
def C1 (bx:Nat->Option aO)(e:TypeId)(ei:TI)(b:SV)(src:OA×Nat ⊕ List Value):Q:=
 match b with
 | .c (.v (.slice a n c))=>.app none a [] n c src ei.size ei.bytes e
 | .c (.kr s 0 n c)=>match dJ bx s,ja bx s with
  | some vs,some ty=>if Nat.beq ty e then .app (some s) none vs n c src ei.size ei.bytes e else .fail
  | _,_=>.fail
 | .c (.iX s n c)=>match bx s with
  | some ⟨.aT vs,ty⟩=>if Nat.beq ty e then .oX s vs n c src ei.size ei.bytes e else .fail
  | _=>.fail
 | _=>.fail
theorem te {bx:Nat->Option aO}{e:TypeId}{ei:TI}{b x:SV}:bN bx e ei b x=match js ei.zero with
  | none=>.fail
  | some zs=>if Nat.beq ei.bytes 0||Nat.beq ei.size 0||!(Nat.beq ei.size zs.length) then .fail else match w_ bx ei.size x with
   | none=>.fail
   | some src=>C1 bx e ei b src:=rfl
theorem DQ {bx bx':Nat->Option aO}{sz:Nat}{x:SV}:(∀s∈x.ids,bx' s=bx s)->w_ bx sz x=w_ bx' sz x:=by
 unfold w_
 split
 ·exact fun _=>rfl
 ·intro h;unfold dJ;rw [h _ (by simp [SV.ids,C.ids])]
 ·exact fun _=>rfl
theorem E7 {bx bx':Nat->Option aO}{e:TypeId}{ei:TI}{b:SV}{src:OA×Nat ⊕ List Value}:(∀s∈b.ids,bx' s=bx s)->C1 bx e ei b src=C1 bx' e ei b src:=by
 unfold C1
 split
 ·exact fun _=>rfl
 ·intro h;unfold dJ ja;rw [h _ (by simp [SV.ids,C.ids])]
 ·intro h;rw [h _ (by simp [SV.ids,C.ids])]
 ·exact fun _=>rfl
theorem Cg {bx bx':Nat->Option aO}{e:TypeId}{ei:TI}{b x:SV}(h:∀s∈b.ids++x.ids,bx' s=bx s):bN bx e ei b x=bN bx' e ei b x:=by
 rw [te,te,DQ fun s hs=>h s (List.mem_append_right _ hs)]
 have:=fun src=>E7 (bx:=bx) (bx':=bx') (e:=e) (ei:=ei) (b:=b) (src:=src) fun s hs=>h s (List.mem_append_left _ hs)
 simp only [this]
theorem An {bx:Nat->Option aO}{e:TypeId}{ei:TI}{b x:SV}:∀s,wZ (bN bx e ei b x)=some s->s∈b.ids:=by
 intro s h
 unfold bN at h
 split at h
 ·cases h
 ·split at h
  ·cases h
  ·dsimp only at h
   split at h
   ·cases h
   ·split at h
    ·cases h
    ·split at h
     ·split at h
      ·cases h;simp [SV.ids,C.ids]
      ·cases h
     ·cases h
    ·split at h
     ·split at h
      ·cases h;simp [SV.ids,C.ids]
      ·cases h
     ·cases h
    ·cases h
theorem Ig {bx bx':Nat->Option aO}{ys:List SV}{ts:List TypeId}{R:List Nat}(h:∀s∈ys.flatMap SV.ids,bx' s=bx s)(hR:∀s∈ys.flatMap SV.ids,s∈R) :
  Ds T bx (some ys) ts=Ds T bx' (some ys) ts/\∀s,wZ (Ds T bx (some ys) ts)=some s->s∈R:=by
 unfold Ds
 split
 ·rename_i b x t t' hb
  cases hb
  split
  ·split
   ·split
    ·exact ⟨Cg fun s hs=>h s (by simpa using hs),fun s hs=>hR s (by simp [An s hs])⟩
    ·exact ⟨rfl,fun s hs=>nomatch hs⟩
   ·exact ⟨rfl,fun s hs=>nomatch hs⟩
  ·exact ⟨rfl,fun s hs=>nomatch hs⟩
 ·exact ⟨rfl,fun s hs=>nomatch hs⟩
theorem Eu {bx:Nat->Option aO}{e:TypeId}{ei:TI}{b x:SV}:cI (bN bx e ei b x)=6\/bN bx e ei b x=.fail:=by
 unfold bN
 split
 ·exact .inr rfl
 ·split
  ·exact .inr rfl
  ·dsimp only
   split
   ·exact .inr rfl
   ·split<;>(try split)<;>(try split)<;>first|exact .inl rfl|exact .inr rfl
theorem GD {ρ:Operand->Option SV}{bx:Nat->Option aO}{args:Array Operand}{ts:Array TypeId}:cI (aH T ρ bx (.call ⟨.builtin .append,args,ts⟩))=6\/aH T ρ bx (.call ⟨.builtin .append,args,ts⟩)=.fail:=by
 simp only [aH]
 split
 ·split
  ·split
   ·split
    ·exact Eu
    ·exact .inr rfl
   ·exact .inr rfl
  ·exact .inr rfl
 ·exact .inr rfl
theorem yn {Q0:Q}{dst:Option Nat}{st:St}{V:View}{K K':St->View->Prop}{W D:List Nat}(ht:cI Q0=6\/Q0=.fail)
  (ho:∀s,wZ Q0=some s->q s=none/\s∈W)(hd:∀k,dst=some k->(p k=none/\k∈D)/\∀s,q (lI s k)=none/\lI s k∈W)(hd0:∀k,dst=some k->q k=none/\k∈W)
  (hK:∀s2 V2,Good p q W D st V K s2 V2->K' s2 V2)(h:qo Q0 dst (ov p q st) V K):qo Q0 dst st V K':=by
 cases Q0 with
 | oX s vs n c x size bytes ty=>
  simp only [qo] at h ⊢
  cases dst with
  | none=>exact h.elim
  | some d=>
   dsimp only at h ⊢
   obtain ⟨⟨hp,hD⟩,hn⟩:=hd d rfl
   obtain ⟨hs,LG⟩:=ho s rfl
   have core:∀k xs,pS s vs n c size bytes ty d (ov p q st) V K k xs->pS s vs n c size bytes ty d st V K' k xs:=by
    rintro k xs ⟨h1,h2,h3,h4,h5,h6⟩
    refine ⟨h1,h2,h3,h4,h5,?_⟩
    rw [ch (hn s).1] at h6
    split at h6
    ·exact h6.elim
    ·intro spare c' g1 g2
     have:=h6 spare c' g1 g2
     rw [jU hs,jU (hn s).1,iQ (fun k hk=>by cases hk;exact hp)] at this
     refine hK _ _ ⟨View.Le.refl V,?_,?_,this⟩
     ·intro t ht;rw [cN,if_neg (fun e=>ht (by rw [e];exact hD))];rfl
     ·intro t ht
      show ((st.box s _).box _ _).boxes t=_
      rw [ai,if_neg (fun e=>ht (by rw [e];exact (hn s).2)),ai,if_neg (fun e=>ht (by rw [e];exact LG))]
   cases x with
   | inr xs=>exact core _ _ h
   | inl ak=>obtain ⟨xs,h1,h2,h3⟩:=h;exact ⟨xs,h1,h2,core _ _ h3⟩
 | app old ba vs n c x size bytes ty=>
  simp only [qo] at h ⊢
  cases dst with
  | none=>exact h.elim
  | some d=>
   dsimp only at h ⊢
   obtain ⟨⟨hp,hD⟩,hn⟩:=hd d rfl
   cases old with
   | some s=>
    dsimp only at h ⊢
    obtain ⟨hs,LG⟩:=ho s rfl
    have core:∀k xs,yV s vs n c size bytes ty d (ov p q st) V K k xs->yV s vs n c size bytes ty d st V K' k xs:=by
     rintro k xs ⟨h1,h2,h3,h4,h5,h6⟩
     refine ⟨h1,h2,h3,h4,h5,?_⟩
     rw [ch (hn s).1] at h6
     split at h6
     ·exact h6.elim
     ·intro b J spare c' g1 g2
      have:=h6 b J spare c' g1 g2
      rw [jU hs,jU (hn s).1,iQ (fun k hk=>by cases hk;exact hp)] at this
      refine hK _ _ ⟨View.Le.refl V,?_,?_,this⟩
      ·intro t ht;rw [cN,if_neg (fun e=>ht (by rw [e];exact hD))];rfl
      ·intro t ht
       show ((st.box s _).box _ _).boxes t=_
       rw [ai,if_neg (fun e=>ht (by rw [e];exact (hn s).2)),ai,if_neg (fun e=>ht (by rw [e];exact LG))]
    cases x with
    | inr xs=>exact core _ _ h
    | inl ak=>obtain ⟨xs,h1,h2,h3⟩:=h;exact ⟨xs,h1,h2,core _ _ h3⟩
   | none=>
    dsimp only at h ⊢
    obtain ⟨q1,q2⟩:=hd0 d rfl
    obtain ⟨vs',g1,g2,g3,g4,h⟩:=h
    have core:∀k xs,yW vs' n c size bytes ty d (ov p q st) V K k xs->yW vs' n c size bytes ty d st V K' k xs:=by
     rintro k xs ⟨h1,h2,h3,h4,h5⟩
     refine ⟨h1,h2,h3,h4,?_⟩
     rw [ch q1] at h5
     split at h5
     ·exact h5.elim
     ·intro spare c' k1 k2
      have:=h5 spare c' k1 k2
      rw [jU q1,iQ (fun k hk=>by cases hk;exact hp)] at this
      refine hK _ _ ⟨View.Le.refl V,?_,?_,this⟩
      ·intro t ht;rw [cN,if_neg (fun e=>ht (by rw [e];exact hD))];rfl
      ·intro t ht
       show (st.box d _).boxes t=_
       rw [ai,if_neg (fun e=>ht (by rw [e];exact q2))]
    refine ⟨vs',g1,g2,g3,g4,?_⟩
    cases x with
    | inr xs=>exact core _ _ h
    | inl ak=>
     obtain ⟨xs,h1,h2,h3,h4⟩:=h
     refine ⟨xs,h1,h2,fun e=>?_,fun e=>core _ _ (h4 e)⟩
     have:=h3 e
     rw [iQ (fun k hk=>by cases hk;exact hp)] at this
     refine hK _ _ ⟨View.Le.refl V,?_,fun t ht=>rfl,this⟩
     intro t ht;rw [cN,if_neg (fun e=>ht (by rw [e];exact hD))]
 | fail=>exact h.elim
 | _=>rcases ht with ht|ht<;>cases ht
theorem oE {h:Hint}{o:Oper}{st:St}{V:View}{K:St->View->Prop}{R W:List Nat}
  (hm:kL (aW LF RF o.op)=true\/(aW LF RF o.op=.call/\m=.none)\/((aW LF RF o.op=.ji/\m=.bf)\/(aW LF RF o.op=.give/\m=.give)\/aW LF RF o.op=.app))
  (hrw:nP (aW LF RF o.op) h (dB o)=some (R,W))(hp:∀t,t∈fY o.op\/t∈dB o->p t=none)(hq:∀s∈R,q s=none)
  (Rf:∀s∈W,q s=none){K':St->View->Prop}(hK:∀s2 V2,Good p q W (dB o) st V K s2 V2->K' s2 V2)(hv:ck P T m h o (ov p q st) V K):ck P T m h o st V K':=by
 have B0:∀t∈fY o.op,st.aq t=(ov p q st).aq t:=fun t ht=>by simp [ov,hp t (.inl ht)]
 rcases hm with hm|hm
 ·obtain ⟨p2,q2,hO⟩:=lD hm hrw hv
  refine hO.again st V _ (View.Le.refl V) B0 (fun s hs=>(ch (hq s hs)).symm) ?_
  refine hK _ _ ⟨View.Le.refl V,fun t ht=>by simp [ov,hO.pd t ht],fun s hs=>by simp [ov,hO.qd s hs],?_⟩
  rw [xR]
  ·exact hO.next
  ·intro t
   by_cases h:t∈dB o
   ·exact .inl (hp t (.inr h))
   ·exact .inr (hO.pd t h)
  ·intro s
   by_cases h:s∈W
   ·exact .inl (Rf s h)
   ·exact .inr (hO.qd s h)
 ·
  have hval:∀(x:Operand),x∈o.op.operands.toList->(ov p q st).aU x=st.aU x:=fun x hx=>H_ fun t e=>hp t (.inl (sP hx e))
  have hdst:∀k,o.dst=some k->p k=none/\k∈dB o:=fun k hk=>by
   have:k∈dB o:=by simp [dB,hk]
   exact ⟨hp k (.inr this),this⟩
  have body:(¬aW LF RF o.op=.app)->∀(hh:∀xs f ss Hj args ts,o.op=.call ⟨.value Hj,args,ts⟩->bI (ov p q st).aU args.toList=some xs->(ov p q st).aU Hj=some (.c (.zz f ss)) ->
    m=.none\/((m=.bf\/m=.give)/\(∀s∈reach (ov p q st).boxes 3 (dedup ((xs++rR ss).flatMap SV.ids)),q s=none/\s∈W)/\∀k,o.dst=some k->∀mm,q (dZ mm k)=none/\dZ mm k∈W)),
    cC P T m o (ov p q st) V K->cC P T m o st V K':=by
   intro happ hh hv
   unfold cC at hv ⊢
   split at hv
   ·rename_i Hj args ts hop
    have e1:bI (ov p q st).aU args.toList=bI st.aU args.toList:=dE _ fun x hx=>hval x (by rw [hop];simp [Op.operands,Call.operands];exact .inr (by simpa using hx))
    have e2:(ov p q st).aU Hj=st.aU Hj:=hval Hj (by rw [hop];simp [Op.operands,Call.operands])
    split at hv
    ·rename_i xs hxs
     split at hv
     ·rename_i f ss hf
      have hmm:=hh _ _ _ _ _ _ hop hxs hf
      rw [e1] at hxs
      rw [e2] at hf
      simp only [hxs,hf]
      exact qe hmm hdst hK hv
     ·exact hv.elim
    ·exact hv.elim
   ·rename_i recv name args ts hop
    have hmn:m=.none:=by
     rw [hop] at hm
     rcases hm with ⟨-,h⟩|⟨h,-⟩|⟨h,-⟩|h
     ·exact h
     ·cases h
     ·cases h
     ·cases h
    have e1:bI (ov p q st).aU args.toList=bI st.aU args.toList:=dE _ fun x hx=>hval x (by rw [hop];simp [Op.operands,Call.operands];exact .inr (by simpa using hx))
    have e2:(ov p q st).aU recv=st.aU recv:=hval recv (by rw [hop];simp [Op.operands,Call.operands])
    split at hv
    ·rename_i xs hxs
     split at hv
     ·rename_i t v hf
      split at hv
      ·rename_i f FJ
       rw [e1] at hxs
       rw [e2] at hf
       simp only [hxs,hf,FJ]
       exact qe (.inl hmn) hdst hK hv
      ·exact hv.elim
     ·exact hv.elim
    ·exact hv.elim
   ·rename_i hnc Lz
    exfalso
    have hc4:aW LF RF o.op=.call\/aW LF RF o.op=.ji\/aW LF RF o.op=.give:=by
     rcases hm with ⟨h,-⟩|⟨h,-⟩|⟨h,-⟩|h
     ·exact .inl h
     ·exact .inr (.inl h)
     ·exact .inr (.inr h)
     ·exact absurd h happ
    clear hm happ hh
    generalize hop:o.op=op at hc4 hnc Lz
    cases op with
    | call c=>
     obtain ⟨C5,args,ts⟩:=c
     cases C5 with
     | builtin b=>cases b<;>rcases hc4 with h|h|h<;>cases h
     | value f=>exact hnc f args ts rfl
     | invoke r nm=>exact Lz r nm args ts rfl
    | _=>rcases hc4 with h|h|h<;>cases h
  have Pp:∀l:List Nat,W=l++dB o++(dB o).map (·+ 200000)->∀k,o.dst=some k->∀mm,q (dZ mm k)=none/\dZ mm k∈W:=by
   intro l hW k hk mm
   have:dZ mm k∈W:=by
    rw [hW]
    have hkd:=(hdst k hk).2
    rcases Gf (m:=mm) (d:=k) with h|h<;>rw [h]<;>simp [hkd]
   exact ⟨Rf _ this,this⟩
  have own:∀l:List Nat,h=.own l->R=l->W=l++dB o++(dB o).map (·+ 200000)->(aW LF RF o.op=.ji\/aW LF RF o.op=.give\/aW LF RF o.op=.app)->(¬aW LF RF o.op=.app->m=.bf\/m=.give)->ck P T m h o st V K':=by
   intro l hh hR hW hcl hmm
   subst hh hR
   unfold ck at hv ⊢
   dsimp only at hv ⊢
   split at hv
   ·rename_i ys hys
    split at hv
    ·rename_i hsub
     have e0:bI (ov p q st).aU (fX o.op)=bI st.aU (fX o.op):=dE _ fun x hx=>hval x (sO hx)
     rw [←e0,hys]
     dsimp only
     have hin:∀s∈dN (ov p q st).boxes o.op (ys.flatMap SV.ids),s∈R:=tC.1 hsub
     have e3:dN st.boxes o.op (ys.flatMap SV.ids)=dN (ov p q st).boxes o.op (ys.flatMap SV.ids):=by
      revert hin
      unfold dN
      split
      ·intro hin
       exact kM 3 _ fun s hs=>(ch (hq s (hin s hs))).symm
      ·exact fun _=>rfl
     rw [e3,hsub]
     dsimp only
     have Q_:∀s∈R,s∈W:=fun s hs=>by rw [hW];simp [hs]
     by_cases happ:aW LF RF o.op=.app
     ·
      have hop:∃args ts,o.op=.call ⟨.builtin .append,args,ts⟩:=by
       generalize o.op=op at happ
       cases op with
       | call c=>
        obtain ⟨C5,args,ts⟩:=c
        cases C5 with
        | builtin b=>cases b<;>first|exact ⟨args,ts,rfl⟩|cases happ
        | value f=>cases f with
         | func f=>simp only [aW] at happ;split at happ<;>(try split at happ)<;>(try split at happ)<;>(try split at happ)<;>cases happ
         | _=>cases happ
        | _=>cases happ
       | _=>cases happ
      obtain ⟨args,ts,hop⟩:=hop
      have e4:aH T st.aU st.boxes o.op=aH T (ov p q st).aU (ov p q st).boxes o.op/\∀s,wZ (aH T st.aU st.boxes o.op)=some s->s∈R:=by
       have e5:bI (ov p q st).aU args.toList=bI st.aU args.toList:=by rw [hop] at e0;exact e0
       have O3:bI st.aU args.toList=some ys:=by rw [hop] at hys;rw [←e5];exact hys
       have hin':∀s∈ys.flatMap SV.ids,s∈R:=by
        intro s hs
        refine hin s ?_
        rw [hop]
        simp only [dN]
        exact dP 3 _ s (bz.2 hs)
       rw [hop]
       simp only [aH]
       rw [e5,O3]
       exact Ig (fun s hs=>by rw [ch (hq s (hin' s hs))]) hin'
      have hvb:qo (aH T (ov p q st).aU (ov p q st).boxes o.op) o.dst (ov p q st) V K:=by
       unfold cC at hv
       rw [hop] at hv ⊢
       exact hv
      have hgoal:qo (aH T st.aU st.boxes o.op) o.dst st V K'->cC P T m o st V K':=by
       intro h
       unfold cC
       rw [hop] at h ⊢
       exact h
      rw [←e4.1] at hvb
      refine hgoal ?_
      have htag:∀Q0,aH T st.aU st.boxes o.op=Q0->cI Q0=6\/Q0=.fail:=by
       intro Q0 hQ
       rw [←hQ,hop]
       exact GD
      generalize Tg:aH T st.aU st.boxes o.op=Q0 at hvb e4
      exact yn (htag Q0 Tg) (fun s hs=>⟨hq s (e4.2 s hs),Q_ s (e4.2 s hs)⟩) (fun k hk=>⟨hdst k hk,fun s=>by
       have:=Pp R hW k hk (some s)
       exact this⟩) (fun k hk=>Pp R hW k hk Option.none) hK hvb
     ·have hmode:=hmm happ
      refine body happ (fun xs f ss Hj args ts hop hxs hf=>.inr ⟨hmode,fun s hs=>?_,Pp R hW⟩) hv
      have:s∈R:=by
       apply hin
       rw [hop] at hys ⊢
       simp only [dN]
       have hy:ys.flatMap SV.ids=(xs++rR ss).flatMap SV.ids:=by
        have:∀(l:List Operand)(xs:List SV)(x:Operand)(v:SV),bI (ov p q st).aU l=some xs->(ov p q st).aU x=some v->bI (ov p q st).aU (l++[x])=some (xs++[v]):=by
         intro l
         induction l with
         | nil=>intro xs x v h1 h2;simp only [bI,Option.some.injEq] at h1;subst h1;simp [bI,h2]
         | cons o r ih=>
          intro xs x v h1 h2
          simp only [bI] at h1
          split at h1
          ·rename_i y l' h3 h4
           cases h1
           simp only [List.cons_append,bI,h3,ih _ x v h4 h2]
          ·cases h1
        simp only [fX] at hys
        rw [this _ _ _ _ hxs hf] at hys
        cases hys
        simp only [List.flatMap_append]
        congr 1
        simp [rR,SV.ids,C.ids,List.flatMap_map]
       rw [hy]
       exact hs
      exact ⟨hq s this,Q_ s this⟩
    ·exact hv.elim
   ·exact hv.elim
  rcases hm with ⟨hc,hm⟩|⟨hc,hm⟩|⟨hc,hm⟩|hc
  ·rw [hc] at hrw
   cases h with
   | own l=>cases hrw
   | free=>exact body (by rw [hc];exact fun h=>by cases h) (fun _ _ _ _ _ _ _ _ _=>.inl hm) hv
  ·rw [hc] at hrw
   cases h with
   | free=>cases hrw
   | own l=>
    simp only [nP,Option.some.injEq,Prod.mk.injEq] at hrw
    exact own l rfl hrw.1.symm hrw.2.symm (.inl hc) (fun _=>.inl hm)
  ·rw [hc] at hrw
   cases h with
   | free=>cases hrw
   | own l=>
    simp only [nP,Option.some.injEq,Prod.mk.injEq] at hrw
    exact own l rfl hrw.1.symm hrw.2.symm (.inr (.inl hc)) (fun _=>.inr hm)
  ·rw [hc] at hrw
   cases h with
   | free=>cases hrw
   | own l=>
    simp only [nP,Option.some.injEq,Prod.mk.injEq] at hrw
    exact own l rfl hrw.1.symm hrw.2.symm (.inr (.inr hc)) (fun h=>absurd hc h)
end Go.bu
namespace Go.bu
variable {P:Program} {T:cF} {LF RF:List Nat}
def uj (ops:Array Oper)(o:Oper)(st:St)(k:St->Bool->Prop):Prop:=
 match o.guard with
 | none=>k st true
 | some (j,b)=>match (ops[j]?).bind (·.dst) with
  | none=>False
  | some g=>match st.aq g with
   | some (.c .tt)=>k st b
   | some (.c .ff)=>k st (!b)
   | some (.c (.v (.bool c)))=>(c=true->k (st.put (some g) (.c .tt)) b)/\(c=false->k (st.put (some g) (.c .ff)) (!b))
   | some (.mV _)=>k st false
   | _=>False
def kc (P:Program)(T:cF)(m:CM)(h:Hint)(o:Oper)(V:View)(K:St->View->Prop)(st:St)(w:Bool):Prop:=
 match w with
 | true=>ck P T m h o st V K
 | false=>K (st.put o.dst hU) V
theorem ym {m:CM}{h:Hint}{ops:Array Oper}{o:Oper}{st:St}{V:View}{K:St->View->Prop} :
  n_ P T m h ops o st V K↔uj ops o st (kc P T m h o V K):=by
 unfold n_ uj
 cases hg:o.guard with
 | none=>rfl
 | some jb=>
  obtain ⟨j,b⟩:=jb
  dsimp only
  cases hd:(ops[j]?).bind (·.dst) with
  | none=>rfl
  | some g=>
   dsimp only
   split<;>simp_all<;>cases b<;>rfl
def gY:Nat->Option aO:=fun _=>none
structure NU (ops:Array Oper) (o:Oper) (st:St) (k:St->Bool->Prop) (p:Nat->Option SV) (w:Bool):Prop where
 pd:∀t,t∉dk ops o->p t=none
 next:k (ov p gY st) w
 again:∀(st2:St)(k2:St->Bool->Prop),(∀t∈dk ops o,st2.aq t=st.aq t)->k2 (ov p gY st2) w->uj ops o st2 k2
theorem eK {ops:Array Oper}{o:Oper}{st:St}{k:St->Bool->Prop}(h:uj ops o st k):∃p w,NU ops o st k p w:=by
 unfold uj at h
 split at h
 ·rename_i hg
  exact ⟨fun _=>none,true,fun _ _=>rfl,h,fun st2 k2 _ hk=>by unfold uj;rw [hg];exact hk⟩
 ·rename_i j b hg
  split at h
  ·exact h.elim
  ·rename_i g hd
   have hgt:dk ops o=[g]:=by simp only [dk,hg,hd]
   split at h
   ·rename_i hs
    exact ⟨fun _=>none,b,fun _ _=>rfl,h,fun st2 k2 ha hk=>by unfold uj;simp only [hg,hd,ha g (by simp [hgt]),hs];exact hk⟩
   ·rename_i hs
    exact ⟨fun _=>none,!b,fun _ _=>rfl,h,fun st2 k2 ha hk=>by unfold uj;simp only [hg,hd,ha g (by simp [hgt]),hs];exact hk⟩
   ·rename_i c hs
    cases c with
    | true=>
     refine ⟨one (some g) (.c .tt),b,fun t ht=>df (by intro e;apply ht;rw [hgt];simpa using e.symm),?_,fun st2 k2 ha hk=>?_⟩
     ·have:=h.1 rfl;rw [dU] at this;exact this
     ·unfold uj;simp only [hg,hd,ha g (by simp [hgt]),hs]
      exact ⟨fun _=>by rw [dU];exact hk,fun e=>by cases e⟩
    | false=>
     refine ⟨one (some g) (.c .ff),!b,fun t ht=>df (by intro e;apply ht;rw [hgt];simpa using e.symm),?_,fun st2 k2 ha hk=>?_⟩
     ·have:=h.2 rfl;rw [dU] at this;exact this
     ·unfold uj;simp only [hg,hd,ha g (by simp [hgt]),hs]
      exact ⟨fun e=>(by cases e),fun _=>by rw [dU];exact hk⟩
   ·rename_i xs hs
    exact ⟨fun _=>none,false,fun _ _=>rfl,h,fun st2 k2 ha hk=>by unfold uj;simp only [hg,hd,ha g (by simp [hgt]),hs];exact hk⟩
   ·exact h.elim
theorem kX {ops:Array Oper}{o:Oper}{st:St}{k k':St->Bool->Prop}(hk:∀s w,k s w->k' s w)(h:uj ops o st k):uj ops o st k':=by
 obtain ⟨p,w,hO⟩:=eK h
 exact hO.again st k' (fun _ _=>rfl) (hk _ _ hO.next)
theorem put_comm {st:St}{d d':Option Nat}{x y:SV}(h:∀k,d=some k->d'≠some k):(st.put d x).put d' y=(st.put d' y).put d x:=by
 cases d with
 | none=>rfl
 | some d=>
  cases d' with
  | none=>rfl
  | some d'=>
   have hne:d≠d':=fun e=>h d rfl (by rw [e])
   simp only [St.put]
   congr 1
   funext t
   by_cases e:t=d
   ·subst e;simp [Nat.beq_refl,cQ hne]
   ·simp [cQ e]
theorem BT {ops:Array Oper}{o1 o2:Oper}{st:St}{F:St->Bool->Bool->Prop}(h:uj ops o1 st fun s w1=>uj ops o2 s fun s' w2=>F s' w1 w2) :
  uj ops o2 st fun s w2=>uj ops o1 s fun s' w1=>F s' w1 w2:=by
 by_cases hsh:∃g,dk ops o1=[g]/\dk ops o2=[g]
 ·obtain ⟨g,e1,e2⟩:=hsh
  unfold dk at e1 e2
  split at e1
  ·cases e1
  ·rename_i j1 b1 hg1
   split at e1
   ·rename_i g1 hd1
    cases e1
    split at e2
    ·cases e2
    ·rename_i j2 b2 hg2
     split at e2
     ·rename_i g2 hd2
      cases e2
      unfold uj at h ⊢
      simp only [hg1,hg2,hd1,hd2] at h ⊢
      split at h
      ·rename_i hs;exact h
      ·rename_i hs;exact h
      ·rename_i c hs
       simp only [cN,if_true] at h ⊢
       exact h
      ·rename_i xs hs;exact h
      ·exact h.elim
     ·cases e2
   ·cases e1
 ·obtain ⟨p1,w1,h1⟩:=eK h
  obtain ⟨p2,w2,h2⟩:=eK h1.next
  have Mb:∀o:Oper,dk ops o=[]\/∃g,dk ops o=[g]:=by
   intro o;unfold dk
   split
   ·exact .inl rfl
   ·split
    ·exact .inr ⟨_,rfl⟩
    ·exact .inl rfl
  have hdj:∀t,t∈dk ops o1->t∉dk ops o2:=by
   intro t ht1 ht2
   rcases Mb o1 with e1|⟨g1,e1⟩
   ·rw [e1] at ht1;cases ht1
   ·rcases Mb o2 with e2|⟨g2,e2⟩
    ·rw [e2] at ht2;cases ht2
    ·rw [e1] at ht1;rw [e2] at ht2
     simp at ht1 ht2
     exact hsh ⟨t,by rw [e1,ht1],by rw [e2,ht2]⟩
  refine h2.again st _ (fun t ht=>?_) (h1.again _ _ (fun t ht=>?_) ?_)
  ·show st.aq t=(ov p1 gY st).aq t
   simp [ov,h1.pd t (fun h=>hdj t h ht)]
  ·show (ov p2 gY st).aq t=st.aq t
   simp [ov,h2.pd t (hdj t ht)]
  ·have e:ov p1 gY (ov p2 gY st)=ov p2 gY (ov p1 gY st):=xR (fun t=>by
    by_cases ht:t∈dk ops o1
    ·exact .inr (h2.pd t (hdj t ht))
    ·exact .inl (h1.pd t ht)) (fun _=>.inl rfl)
   show F (ov p1 gY (ov p2 gY st)) w1 w2
   rw [e]
   exact h2.next
theorem gk {o:Oper}{k:Nat}(h:o.dst=some k):k∈dB o:=by simp [dB,h]
theorem H8 {ops:Array Oper}{m1 m2:CM}{h1 h2:Hint}{o1 o2:Oper}{st:St}{V:View}{K:St->View->Prop}
  (hi:indep LF RF ops h1 h2 o1 o2=true)
  (hm:kL (aW LF RF o2.op)=true\/(aW LF RF o2.op=.call/\m2=.none)\/((aW LF RF o2.op=.ji/\m2=.bf)\/(aW LF RF o2.op=.give/\m2=.give)\/aW LF RF o2.op=.app))
  (hv:n_ P T m1 h1 ops o1 st V fun st1 V1=>n_ P T m2 h2 ops o2 st1 V1 K) :
  n_ P T m2 h2 ops o2 st V fun st2 V2=>n_ P T m1 h1 ops o1 st2 V2 K:=by
 unfold indep at hi
 simp only [Bool.and_eq_true] at hi
 obtain ⟨⟨⟨⟨⟨hq1,hd1⟩,hd2⟩,hg1⟩,hg2⟩,hrw⟩:=hi
 split at hrw
 ·rename_i R1 W1 R2 W2 hr1 hr2
  simp only [Bool.and_eq_true] at hrw
  obtain ⟨⟨LP,LQ⟩,Rj⟩:=hrw
  rw [zI] at hd1 hd2 hg1 hg2 LP LQ Rj
  have OE:∀k,o2.dst=some k->o1.dst≠some k:=fun k hk hk'=>hd1 k (gk hk') (by simp [gk hk])
  simp only [ym] at hv ⊢
  have sa:uj ops o1 st fun s w1=>uj ops o2 s fun s' w2=>kc P T m1 h1 o1 V (fun s'' dX=>kc P T m2 h2 o2 dX K s'' w2) s' w1:=by
   refine kX (fun s w1 hb=>?_) hv
   cases w1 with
   | true=>
    obtain ⟨p,q,hO⟩:=lD hq1 hr1 hb
    obtain ⟨p2,w2,hG⟩:=eK hO.next
    refine hG.again s _ (fun t ht=>?_) ?_
    ·show s.aq t=(ov p q s).aq t
     simp [ov,hO.pd t (fun h=>hd1 t h (by simp [ht]))]
    ·refine hO.again _ V _ (View.Le.refl V) (fun t ht=>?_) (fun _ _=>rfl) ?_
     ·show (ov p2 gY s).aq t=s.aq t
      simp [ov,hG.pd t (fun h=>hg2 t h ht)]
     ·rw [xR (q2:=gY) _ (fun _=>.inr rfl)]
      ·exact hG.next
      ·intro t
       by_cases ht:t∈dk ops o2
       ·exact .inl (hO.pd t (fun h=>hd1 t h (by simp [ht])))
       ·exact .inr (hG.pd t ht)
   | false=>
    simp only [kc] at hb
    obtain ⟨p2,w2,hG⟩:=eK hb
    have hp:∀k,o1.dst=some k->p2 k=none:=fun k hk=>hG.pd k (fun h=>hd1 k (gk hk) (by simp [h]))
    refine hG.again s _ (fun t ht=>?_) ?_
    ·rw [dU]
     simp [ov,df (d:=o1.dst) (x:=hU) (t:=t) (fun h=>hd1 t (gk h) (by simp [ht]))]
    ·show kc P T m2 h2 o2 V K ((ov p2 gY s).put o1.dst hU) w2
     rw [iQ hp]
     exact hG.next
  have sb:=BT sa
  have sc:uj ops o2 st fun s w2=>uj ops o1 s fun s' w1=>kc P T m2 h2 o2 V (fun s'' dX=>kc P T m1 h1 o1 dX K s'' w1) s' w2:=by
   refine kX (fun s w2 hb=>kX (fun s' w1 hb=>?_) hb) sb
   cases w1 with
   | true=>
    obtain ⟨p,q,hO⟩:=lD hq1 hr1 hb
    cases w2 with
    | true=>
     refine oE hm hr2 (fun t ht=>hO.pd t (fun h=>hd1 t h (by rcases ht with ht|ht<;>simp [ht]))) (fun s hs=>hO.qd s (fun h=>LP s h hs)) (fun s hs=>hO.qd s (fun h=>Rj s h hs)) (fun s2 V2 hG=>?_) hO.next
     obtain ⟨g1,g2,g3,g4⟩:=hG
     exact hO.again s2 V2 K g1 (fun t ht=>g2 t (fun h=>hd2 t h (by simp [ht]))) (fun s hs=>g3 s (fun h=>LQ s h hs)) g4
    | false=>
     refine hO.again _ V K (View.Le.refl V) (fun t ht=>?_) (fun s _=>by cases o2.dst<;>rfl) ?_
     ·rw [dU]
      simp [ov,df (d:=o2.dst) (x:=hU) (t:=t) (fun h=>hd2 t (gk h) (by simp [ht]))]
     ·have:=hO.next
      simp only [kc] at this
      rw [iQ (fun k hk=>hO.pd k (fun h=>hd1 k h (by simp [gk hk])))] at this
      exact this
   | false=>
    cases w2 with
    | true=>
     simp only [kc] at hb ⊢
     rw [dU] at hb
     refine oE hm hr2 (fun t ht=>df (fun e=>hd1 t (gk e) (by rcases ht with ht|ht<;>simp [ht]))) (fun s hs=>rfl) (fun s hs=>rfl) (fun s2 V2 hG=>?_) hb
     have:=hG.2.2.2
     rw [←dU] at this
     exact this
    | false=>
     simp only [kc] at hb ⊢
     rw [put_comm OE]
     exact hb
  refine kX (fun s w2 hb=>?_) sc
  cases w2 with
  | true=>
   simp only [kc] at hb ⊢
   obtain ⟨p,w1,hG⟩:=eK hb
   refine oE hm hr2 (fun t ht=>hG.pd t (fun h=>?_)) (fun _ _=>rfl) (fun _ _=>rfl) (fun s2 V2 Tc=>?_) hG.next
   ·rcases ht with ht|ht
    ·exact hg1 t h ht
    ·exact hd2 t ht (by simp [h])
   ·obtain ⟨g1,g2,g3,g4⟩:=Tc
    exact hG.again s2 _ (fun t ht=>g2 t (fun h=>hd2 t h (by simp [ht]))) g4
  | false=>
   simp only [kc] at hb ⊢
   obtain ⟨p,w1,hG⟩:=eK hb
   refine hG.again _ _ (fun t ht=>?_) ?_
   ·rw [dU]
    simp [ov,df (d:=o2.dst) (x:=hU) (t:=t) (fun h=>hd2 t (gk h) (by simp [ht]))]
   ·have:=hG.next
    rw [iQ (fun k hk=>hG.pd k (fun h=>hd2 k (gk hk) (by simp [h])))] at this
    exact this
 ·cases hrw
end Go.bu
