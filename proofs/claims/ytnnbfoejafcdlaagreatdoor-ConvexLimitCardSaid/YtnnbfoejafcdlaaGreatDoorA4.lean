import Derived.Test.YtnnbfoejafcdlaaGreatDoorA3
set_option linter.unusedVariables false
open Go.IntKind (i64 u64 u32)
namespace Go.bq
variable {P:Program} {T:cj} {n:Nat} {V0:View} {bl:Ar} {β0:Nat->Nat} {st:St} {β:Nat->Nat} {a:Act} {w:World} {V:View}
theorem A9 {t:TypeId}{name:String}{f:FuncId}(h:A8 P t name=some f)(k:Nat)(v:Value)(w:World):(Go.method (k+1) t v name).run P w=.ok (f,v) w:=by
 unfold A8 at h
 split at h
 ·rename_i i d h1 h2
  split at h
  ·rename_i m hm
   split at h
   ·rename_i f' fs hp hf
    cases h
    have hp':m.path=#[]:=by apply Array.ext';exact hp
    simp only [Go.method,typeInfo,Sem.run_bind,run_program,Result.andThen_ok,h1,hm,Sem.run_pure,hp',follow,hf,receiverAt,ai h2,Place.get]
   ·cases h
  ·cases h
 ·cases h
theorem oL (hT:cj.ok P T)(hM:Mod n V0 bl β0 st β a w V){m:CM}{o:Oper}{K:St->View->Prop}{next:Act->World->Prop}{Q:Exit->Act->World->Prop}
  (hd:∀d,o.dst=some d->d<n)(hv:cf P T m o st V K)
  (hK:∀st' β' a' w' V',Mod n V0 bl β0 st' β' a' w' V'->K st' V'->next a' w'):o.wp P a w next Q:=by
 unfold cf at hv
 split at hv
 ·rename_i FV args ts hop
  split at hv
  ·rename_i xs hxs
   obtain ⟨h1,h2⟩:=eh hM _ _ hxs
   split at hv
   ·rename_i f ss hf
    obtain ⟨hc,cA⟩:=qI (Q:=Q) hM hd hv hK
    have e1:args.map a.eval=(xs.map (SV.den β)).toArray:=by apply Array.ext';rw [Array.toList_map];exact h1
    have e2:aQ β (xs++qK ss)=(xs.map (SV.den β)).toArray++(ss.map fun s=>Value.pointer (some ⟨β s,0,none⟩)).toArray:=by
     unfold aQ qK
     rw [List.map_append,List.map_map]
     apply Array.ext'
     simp [Function.comp_def,SV.den,C.den]
    have hrun:(execOp a.eval o).run P w=.ok (.enter f (aQ β (xs++qK ss))) w:=by
     rw [e2]
     simp only [execOp,hop,resolve,hM.eval hf,SV.den,C.den,Deferred.ofValue,pure_bind,invoke,e1,Array.empty_append]
     exact hc.run _
    unfold Oper.wp
    rw [hrun]
    exact cA
   ·exact hv.elim
  ·exact hv.elim
 ·rename_i recv name args ts hop
  split at hv
  ·rename_i xs hxs
   obtain ⟨h1,h2⟩:=eh hM _ _ hxs
   split at hv
   ·rename_i t v hf
    split at hv
    ·rename_i f Ex
     obtain ⟨hc,cA⟩:=qI (Q:=Q) hM hd hv hK
     have e1:args.map a.eval=(xs.map (SV.den β)).toArray:=by apply Array.ext';rw [Array.toList_map];exact h1
     have e2:aQ β (.c (.w v)::xs)=#[v]++(xs.map (SV.den β)).toArray:=by
      unfold aQ
      apply Array.ext'
      simp [SV.den,C.den]
     have hrun:(execOp a.eval o).run P w=.ok (.enter f (aQ β (.c (.w v)::xs))) w:=by
      rw [e2]
      have e3:(#[Value.iface t v]++(xs.map (SV.den β)).toArray).extract 1 (#[Value.iface t v]++(xs.map (SV.den β)).toArray).size=(xs.map (SV.den β)).toArray:=by
       apply Array.ext'
       simp
       exact List.take_of_length_le (by simp)
      have e4:(#[Value.iface t v]++(xs.map (SV.den β)).toArray)[0]?=some (Value.iface t v):=by simp
      simp only [execOp,hop,resolve,hM.eval hf,SV.den,C.den,pure_bind,invoke,e1,e4,e3,callMethod,Sem.run_bind,run_program,Result.andThen_ok,Made.depth]
      rw [A9 Ex]
      exact hc.run _
     unfold Oper.wp
     rw [hrun]
     exact cA
    ·exact hv.elim
   ·exact hv.elim
  ·exact hv.elim
 ·exact zm hT hM hd hv hK
theorem gB (hT:cj.ok P T)(hM:Mod n V0 bl β0 st β a w V){m:CM}{h:Hint}{o:Oper}{K:St->View->Prop}{next:Act->World->Prop}{Q:Exit->Act->World->Prop}
  (hd:∀d,o.dst=some d->d<n)(hv:bX P T m h o st V K)
  (hK:∀st' β' a' w' V',Mod n V0 bl β0 st' β' a' w' V'->K st' V'->next a' w'):o.wp P a w next Q:=by
 unfold bX at hv
 split at hv
 ·exact oL hT hM hd hv hK
 ·split at hv
  ·split at hv
   ·exact oL hT hM hd hv hK
   ·exact hv.elim
  ·exact hv.elim
theorem Mod.refine (hM:Mod n V0 bl β0 st β a w V){g:Nat}{x y:SV}(hx:st.aq g=some x)(he:x.den β=y.den β)(hy:y.ids=[]):Mod n V0 bl β0 (st.put (some g) y) β a w V:=by
 refine ⟨hM.defers,hM.size,?_,?_,hM.um,hM.boxes,hM.inj,hM.mr,hM.qe,hM.ext,hM.own,hM.jT,hM.iM,hM.small⟩
 ·intro t z hz
  rw [cD] at hz
  split at hz
  ·rename_i e;simp only [Option.some.injEq] at hz;rw [e,←hz,←he];exact hM.aq g x hx
  ·exact hM.aq t z hz
 ·intro t z hz
  rw [cD] at hz
  split at hz
  ·simp only [Option.some.injEq] at hz;rw [←hz,hy];exact fun s hs=>(nomatch hs)
  ·exact hM.uo t z hz
theorem BT {ops:Array Oper}{tmps:Array Value}{j g:Nat}(hg:(ops[j]?).bind (·.dst)=some g):yielded ops tmps j=match tmps.getD g undef with|.bool b=>some b|_=>none:=by
 unfold yielded
 rw [hg]
 simp only [Option.bind_some]
 by_cases h:g<tmps.size
 ·have h1:tmps[g]?=some tmps[g]:=getElem?_pos tmps g h
  have h2:tmps.getD g undef=tmps[g]:=by simp [h]
  rw [h1,h2]
  generalize tmps[g]=v
  cases v<;>rfl
 ·simp [h,undef]
theorem ze (hT:cj.ok P T)(hM:Mod n V0 bl β0 st β a w V){m:CM}{h:Hint}{ops:Array Oper}{o:Oper}{K:St->View->Prop}{next:Act->World->Prop}{Q:Exit->Act->World->Prop}
  (hd:∀d,o.dst=some d->d<n)(hv:nw P T m h ops o st V K)
  (hK:∀st' β' a' w' V',Mod n V0 bl β0 st' β' a' w' V'->K st' V'->next a' w') :
  if Region.wanted o (yielded ops a.tmps) then o.wp P a w next Q else next (a.put o.dst undef) w:=by
 unfold nw at hv
 split at hv
 ·rename_i hg
  rw [if_pos (by simp [Region.wanted,hg])]
  exact gB hT hM hd hv hK
 ·rename_i j b hg
  split at hv
  ·exact hv.elim
  ·rename_i g hdst
   have hy:=BT (tmps:=a.tmps) hdst
   have hwant:∀c:Bool,a.tmps.getD g undef=.bool c->(Region.wanted o (yielded ops a.tmps)=true↔c=b):=by
    intro c hc
    simp only [Region.wanted,hg]
    rw [hy,hc]
    simp
   have skip:∀{st2:St},Mod n V0 bl β0 st2 β a w V->K (st2.put o.dst gR) V->next (a.put o.dst undef) w:=by
    intro st2 hM2 hK2
    exact hK _ _ _ _ _ (hM2.Be hd rfl (bz rfl)) hK2
   split at hv
   ·rename_i hs
    have hval:=hM.aq g _ hs
    split at hv
    ·rw [if_pos ((hwant true hval).2 rfl)];exact gB hT hM hd hv hK
    ·rw [if_neg (fun h=>by have:=(hwant true hval).1 h;cases this)];exact skip hM hv
   ·rename_i hs
    have hval:=hM.aq g _ hs
    split at hv
    ·rw [if_neg (fun h=>by have:=(hwant false hval).1 h;cases this)];exact skip hM hv
    ·rw [if_pos ((hwant false hval).2 rfl)];exact gB hT hM hd hv hK
   ·rename_i c hs
    have hval:=hM.aq g _ hs
    have ht:c=true->Mod n V0 bl β0 (st.put (some g) (.c .tt)) β a w V:=fun e=>hM.refine hs (by rw [e];rfl) rfl
    have hf:c=false->Mod n V0 bl β0 (st.put (some g) (.c .ff)) β a w V:=fun e=>hM.refine hs (by rw [e];rfl) rfl
    split at hv
    ·cases c with
     | true=>rw [if_pos ((hwant true hval).2 rfl)];exact gB hT (ht rfl) hd (hv.1 rfl) hK
     | false=>rw [if_neg (fun h=>by have:=(hwant false hval).1 h;cases this)];exact skip (hf rfl) (hv.2 rfl)
    ·cases c with
     | true=>rw [if_neg (fun h=>by have:=(hwant true hval).1 h;cases this)];exact skip (ht rfl) (hv.1 rfl)
     | false=>rw [if_pos ((hwant false hval).2 rfl)];exact gB hT (hf rfl) hd (hv.2 rfl) hK
   ·rename_i xs hs
    have hval:=hM.aq g _ hs
    have:Region.wanted o (yielded ops a.tmps)=false:=by
     simp only [Region.wanted,hg]
     rw [hy,hval]
     simp [SV.den]
    rw [if_neg (by rw [this];simp)]
    exact skip hM hv
   ·exact hv.elim
theorem vr (hT:cj.ok P T){m:Nat->CM}{hint:Nat->Hint}{ops:Array Oper}(hd:∀(i:Nat)(o:Oper),ops[i]?=some o->∀d,o.dst=some d->d<n){Q:Exit->Act->World->Prop}{K:St->View->Prop}
  (hK:∀st' β' a' w' V',Mod n V0 bl β0 st' β' a' w' V'->K st' V'->Q .normal a' w') :
  ∀(l:List Nat)(st:St)(β:Nat->Nat)(a:Act)(w:World)(V:View),Mod n V0 bl β0 st β a w V->FM P T m hint ops l st V K->wpOps P ops Q l a w
 | [],st,β,a,w,V,hM,hv=>hK _ _ _ _ _ hM hv
 | i::r,st,β,a,w,V,hM,hv=>by
  simp only [FM] at hv
  simp only [wpOps]
  split at hv
  ·rename_i o ho
   rw [ho]
   dsimp only
   have:=ze (Q:=Q) (next:=wpOps P ops Q r) hT hM (hd i o ho) hv (fun st' β' a' w' V' hM' q_=>vr hT hd hK r st' β' a' w' V' hM' q_)
   split at this
   ·rename_i hw;rw [if_pos hw];exact .inl this
   ·rename_i hw;rw [if_neg hw];exact this
  ·exact hv.elim
end Go.bq
namespace Go.bq
def ov (p:Nat->Option SV)(q:Nat->Option aO)(st:St):St:=
 ⟨fun t=>match p t with|some x=>some x|none=>st.aq t,fun t=>match q t with|some x=>some x|none=>st.boxes t⟩
theorem cG {a b:Nat}(h:a≠b):Nat.beq a b=false:=by
 cases hb:Nat.beq a b
 ·rfl
 ·exact absurd (beq_eq.1 hb) h
section
variable {p:Nat->Option SV} {q:Nat->Option aO} {st:St}
theorem iB {d:Option Nat}{x:SV}(h:∀k,d=some k->p k=none):(ov p q st).put d x=ov p q (st.put d x):=by
 cases d with
 | none=>rfl
 | some d=>
  have hd:=h d rfl
  simp only [ov,St.put]
  congr 1
  funext t
  by_cases e:t=d
  ·subst e;simp [hd,Nat.beq_refl]
  ·simp [cG e]
theorem jD {s:Nat}{b:aO}(h:q s=none):(ov p q st).box s b=ov p q (st.box s b):=by
 simp only [ov,St.box]
 congr 1
 funext t
 by_cases e:t=s
 ·subst e;simp [h,Nat.beq_refl]
 ·simp [cG e]
theorem bT {s:Nat}(h:q s=none):(ov p q st).boxes s=st.boxes s:=by simp [ov,h]
theorem GV {x:Operand}(h:∀t,x=.tmp t->p t=none):(ov p q st).aS x=st.aS x:=by
 cases x with
 | tmp t=>simp [St.aS,ov,h t rfl]
 | _=>rfl
def one {α:Type}(d:Option Nat)(x:α):Nat->Option α:=fun t=>match d with|some k=>cond (Nat.beq t k) (some x) none|none=>none
theorem cN {α:Type}{d:Option Nat}{x:α}{t:Nat}(h:d≠some t):one d x t=none:=by
 cases d with
 | none=>rfl
 | some k=>simp [one,cG (fun e:t=k=>h (by rw [e]))]
theorem dH (d:Option Nat)(x:SV):st.put d x=ov (one d x) (fun _=>none) st:=by
 cases d with
 | none=>rfl
 | some d=>
  simp only [ov,St.put,one]
  congr 1
  funext t
  by_cases e:t=d
  ·subst e;simp [Nat.beq_refl]
  ·simp [cG e]
theorem Az (s:Nat)(b:aO):st.box s b=ov (fun _=>none) (one (some s) b) st:=by
 simp only [ov,St.box,one]
 congr 1
 funext t
 by_cases e:t=s
 ·subst e;simp [Nat.beq_refl]
 ·simp [cG e]
theorem uG (s:Nat)(b:aO)(d:Option Nat)(x:SV):(st.box s b).put d x=ov (one d x) (one (some s) b) st:=by
 rw [dH,Az];rfl
end
theorem dj {ρ ρ':Operand->Option SV}:∀l:List Operand,(∀x∈l,ρ x=ρ' x)->bD ρ l=bD ρ' l
 | [],_=>rfl
 | o::r,h=>by simp only [bD];rw [h o (by simp),dj r fun x hx=>h x (by simp [hx])]
theorem iC {ρ ρ':Operand->Option SV}:∀l:List (Nat×Operand),(∀x∈l.map (·.2),ρ x=ρ' x)->partsOf ρ l=partsOf ρ' l
 | [],_=>rfl
 | (i,o)::r,h=>by simp only [partsOf];rw [h o (by simp),iC r fun x hx=>h x (by simp only [List.map_cons,List.mem_cons];exact .inr hx)]
theorem lU {ρ ρ':Operand->Option SV}:∀l:Option Operand,(∀x,l=some x->ρ x=ρ' x)->wK ρ l=wK ρ' l
 | none,_=>rfl
 | some o,h=>by simp only [wK];rw [h o rfl]
theorem km {T:cj}{ρ ρ':Operand->Option SV}{bx:Nat->Option aO}{op:Op}(h:∀x∈op.operands.toList,ρ x=ρ' x):aH T ρ bx op=aH T ρ' bx op:=by
 cases op with
 | move x=>simp only [aH];rw [h x (by simp [Op.operands])]
 | assign x=>simp only [aH];rw [h x (by simp [Op.operands])]
 | pick c a b=>simp only [aH];rw [h c (by simp [Op.operands]),h a (by simp [Op.operands]),h b (by simp [Op.operands])]
 | box t x=>simp only [aH];rw [h x (by simp [Op.operands])]
 | build t ps=>simp only [aH];rw [iC _ fun x hx=>h x (by simpa [Op.operands] using hx)]
 | buildSlice t n ps=>simp only [aH];rw [iC _ fun x hx=>h x (by simpa [Op.operands] using hx)]
 | load t a=>simp only [aH];rw [h a (by simp [Op.operands])]
 | store t a x=>simp only [aH];rw [h a (by simp [Op.operands]),h x (by simp [Op.operands])]
 | nilCheck x=>simp only [aH];rw [h x (by simp [Op.operands])]
 | binOp o xt x y yt=>simp only [aH];rw [h x (by simp [Op.operands]),h y (by simp [Op.operands])]
 | unOp o xt x=>cases o<;>simp only [aH]<;>rw [h x (by simp [Op.operands])]
 | convert s d x=>simp only [aH];rw [h x (by simp [Op.operands])]
 | makeFunc fn first caps=>
  cases fn with
  | func f=>simp only [aH];rw [dj _ fun x hx=>h x (by simp [Op.operands];exact .inr (by simpa using hx))]
  | _=>rfl
 | makeSlice t a b=>simp only [aH];rw [h a (by simp [Op.operands]),h b (by simp [Op.operands])]
 | slice t x lo hi mx=>
  simp only [aH]
  rw [h x (by simp [Op.operands]),lU lo fun y hy=>h y (by simp [Op.operands,hy]),lU hi fun y hy=>h y (by simp [Op.operands,hy]),lU mx fun y hy=>h y (by simp [Op.operands,hy])]
 | fieldAddr t x f=>simp only [aH];rw [h x (by simp [Op.operands])]
 | field t x f=>simp only [aH];rw [h x (by simp [Op.operands])]
 | indexAddr t x i=>simp only [aH];rw [h x (by simp [Op.operands]),h i (by simp [Op.operands])]
 | extract x j=>simp only [aH];rw [h x (by simp [Op.operands])]
 | index t x i=>simp only [aH];rw [h x (by simp [Op.operands]),h i (by simp [Op.operands])]
 | makeInterface t x=>simp only [aH];rw [h x (by simp [Op.operands])]
 | call c=>
  obtain ⟨B3,args,ts⟩:=c
  cases B3 with
  | builtin b=>
   have e:bD ρ args.toList=bD ρ' args.toList:=dj _ fun x hx=>h x (by simpa [Op.operands,Call.operands] using hx)
   cases b<;>simp only [aH]<;>rw [e]
  | _=>rfl
 | _=>rfl
theorem Fl {T:cj}{LF RF:List Nat}{ρ:Operand->Option SV}{bx bx':Nat->Option aO}{op:Op}(h:aV LF RF op=.pure\/aV LF RF op=.alloc):aH T ρ bx op=aH T ρ bx' op:=by
 cases op with
 | load t a=>rcases h with h|h<;>cases h
 | store t a x=>rcases h with h|h<;>cases h
 | unOp o xt x=>cases o<;>rfl
 | makeFunc fn first caps=>cases fn<;>rfl
 | call c=>
  obtain ⟨B3,args,ts⟩:=c
  cases B3 with
  | builtin b=>cases b<;>first|rfl|(rcases h with h|h<;>cases h)
  | _=>rfl
 | _=>rfl
theorem Fo {bx bx':Nat->Option aO}{i:TI}{x:SV}(h:∀s∈x.ids,bx' s=bx s):gP bx i x=gP bx' i x:=by
 unfold gP
 split
 ·rename_i b o
  rw [h b (by simp [SV.ids,C.ids])]
 ·rfl
 ·rfl
theorem Dt {bx bx':Nat->Option aO}{i:TI}{x y:SV}(h:∀s∈x.ids,bx' s=bx s):fp bx i x y=fp bx' i x y:=by
 unfold fp
 split
 ·rename_i b o
  rw [h b (by simp [SV.ids,C.ids])]
 ·rfl
theorem Bl {bx:Nat->Option aO}{i:TI}{x y:SV}{sc:List Prop}{s:Nat}{b:aO}(h:fp bx i x y=.pI sc s b):s∈x.ids:=by
 unfold fp at h
 split at h
 ·split at h
  ·split at h
   ·split at h
    ·cases h;simp [SV.ids,C.ids]
    ·cases h
   ·split at h
    ·cases h;simp [SV.ids,C.ids]
    ·cases h
   ·split at h
    ·cases h
    ·split at h
     ·cases h;simp [SV.ids,C.ids]
     ·cases h
   ·cases h
  ·cases h
 ·cases h
theorem wR {V:View}{p:Addr}:∀(cs:List C) (i:Nat) {k:Prop},V.G1 p i cs k↔V.G1 p i cs True/\k
 | [],_,k=>by simp [View.G1]
 | c::r,i,k=>by
  simp only [View.G1]
  rw [wR r (i+1),and_assoc]
theorem Fq {V V':View}(h:V.Le V'){p:Addr}:∀(cs:List C) (i:Nat) {k:Prop},V.G1 p i cs k->V'.G1 p i cs k
 | [],_,_,hk=>hk
 | c::r,i,_,hk=>⟨h.at hk.1,Fq h r (i+1) hk.2⟩
theorem mX {V:View}{p:OA}{x:SV}{k:Prop}:V.FZ p x k↔V.FZ p x True/\k:=by
 cases x with
 | c c=>simp [View.FZ]
 | agg cs=>
  simp only [View.FZ]
  constructor
  ·rintro ⟨a,h1,h2⟩;rw [wR] at h2;exact ⟨⟨a,h1,h2.1⟩,h2.2⟩
  ·rintro ⟨⟨a,h1,h2⟩,hk⟩;exact ⟨a,h1,by rw [wR];exact ⟨h2,hk⟩⟩
 | mq xs=>simp [View.FZ]
theorem IU {V V':View}(h:V.Le V'){p:OA}{x:SV}{k:Prop}(hk:V.FZ p x k):V'.FZ p x k:=by
 cases x with
 | c c=>obtain ⟨⟨a,h1,h2⟩,h3⟩:=hk;exact ⟨⟨a,h1,h.at h2⟩,h3⟩
 | agg cs=>obtain ⟨a,h1,h2⟩:=hk;exact ⟨a,h1,Fq h _ _ h2⟩
 | mq xs=>exact hk
theorem sX.split:∀(s:sX) {F:C->Prop},s.ex F->∃x,F x/\∀G:C->Prop,G x->s.ex G
 | .int _,_,⟨_,h⟩=>⟨_,h,fun _ g=>⟨_,g⟩⟩
 | .bool,_,⟨_,h⟩=>⟨_,h,fun _ g=>⟨_,g⟩⟩
 | .slice,_,⟨_,_,_,h⟩=>⟨_,h,fun _ g=>⟨_,_,_,g⟩⟩
 | .ptr,_,⟨_,h⟩=>⟨_,h,fun _ g=>⟨_,g⟩⟩
 | .str,_,⟨_,h⟩=>⟨_,h,fun _ g=>⟨_,g⟩⟩
 | .any,_,⟨_,h⟩=>⟨_,h,fun _ g=>⟨_,g⟩⟩
theorem kM:∀(l:List sX) {F:List C->Prop},Ia l F->∃x,F x/\∀G:List C->Prop,G x->Ia l G
 | [],_,h=>⟨_,h,fun _ g=>g⟩
 | s::r,_,h=>by
  obtain ⟨c,h1,h2⟩:=sX.split s h
  obtain ⟨cs,h3,h4⟩:=kM r h1
  exact ⟨c::cs,h3,fun G g=>h2 _ (h4 _ g)⟩
theorem qk.split:∀(s:qk) {F:SV->Prop},s.ex F->∃x,F x/\∀G:SV->Prop,G x->s.ex G
 | .one s,_,h=>by obtain ⟨c,h1,h2⟩:=sX.split s h;exact ⟨.c c,h1,fun G g=>h2 _ g⟩
 | .agg l,_,h=>by obtain ⟨c,h1,h2⟩:=kM l h;exact ⟨.agg c,h1,fun G g=>h2 _ g⟩
theorem nW:∀(l:List qk) {F:List (Bool×List C)->Prop},Je l F->∃x,F x/\∀G:List (Bool×List C)->Prop,G x->Je l G
 | [],_,h=>⟨_,h,fun _ g=>g⟩
 | .one s::r,_,h=>by
  obtain ⟨c,h1,h2⟩:=sX.split s h
  obtain ⟨cs,h3,h4⟩:=nW r h1
  exact ⟨_,h3,fun G g=>h2 _ (h4 _ g)⟩
 | .agg l::r,_,h=>by
  obtain ⟨c,h1,h2⟩:=kM l h
  obtain ⟨cs,h3,h4⟩:=nW r h1
  exact ⟨_,h3,fun G g=>h2 _ (h4 _ g)⟩
theorem Sh.split:∀(s:Sh) {F:SV->Prop},s.ex F->∃x,F x/\∀G:SV->Prop,G x->s.ex G
 | .val s,_,h=>qk.split s h
 | .mq l,_,h=>by obtain ⟨x,h1,h2⟩:=nW l h;exact ⟨_,h1,fun G g=>h2 _ g⟩
 | .none,_,h=>⟨_,h,fun _ g=>g⟩
theorem Sh.mono {s:Sh}{F G:SV->Prop}(h:s.ex F)(k:∀x,F x->G x):s.ex G:=by
 obtain ⟨x,h1,h2⟩:=s.split h
 exact h2 G (k x h1)
theorem rY {l m:List Nat}:FF l m=true↔∀x∈l,x∈m:=by
 simp only [FF,List.all_eq_true,bN]
theorem rC {op:Op}{x:Operand}(h:x∈op.operands.toList){t:Nat}(e:x=.tmp t):t∈fK op:=by
 subst e
 exact List.mem_filterMap.2 ⟨_,h,rfl⟩
theorem kQ {st st2:St}{op:Op}(h:∀t∈fK op,st2.aq t=st.aq t){x:Operand}(hx:x∈op.operands.toList):st2.aS x=st.aS x:=by
 cases x with
 | tmp t=>exact h t (rC hx rfl)
 | _=>rfl
theorem rB {op:Op}{x:Operand}(h:x∈fJ op):x∈op.operands.toList:=by
 unfold fJ at h
 split at h
 ·simpa [Op.operands] using h
 ·simp at h;subst h;simp [Op.operands]
 ·simp only [Op.operands,Call.operands]
  simp at h ⊢
  rcases h with h|h
  ·exact .inr h
  ·exact .inl h
 ·simpa [Op.operands,Call.operands] using h
 ·cases h
theorem oo {ρ:Operand->Option SV}:∀{l:List Operand} {xs:List SV},bD ρ l=some xs->∀x∈l,∃v,ρ x=some v/\v∈xs
 | [],_,_,_,hx=>nomatch hx
 | o::r,xs,h,x,hx=>by
  simp only [bD] at h
  split at h
  ·rename_i v l h1 h2
   cases h
   rcases List.mem_cons.1 hx with e|hx
   ·exact ⟨v,by rw [e];exact h1,by simp⟩
   ·obtain ⟨u,hu,hm⟩:=oo h2 x hx
    exact ⟨u,hu,by simp [hm]⟩
  ·cases h
structure Outcome (P:Program) (T:cj) (m:CM) (h:Hint) (o:Oper) (st:St) (V:View) (R W:List Nat) (K:St->View->Prop) (p:Nat->Option SV) (q:Nat->Option aO):Prop where
 pd:∀t,t∉dg o->p t=none
 qd:∀s,s∉W->q s=none
 next:K (ov p q st) V
 again:∀(st2:St)(V2:View)(K2:St->View->Prop),V.Le V2->(∀t∈fK o.op,st2.aq t=st.aq t)->(∀s∈R,st2.boxes s=st.boxes s)->K2 (ov p q st2) V2->bX P T m h o st2 V2 K2
variable {P:Program} {T:cj} {LF RF:List Nat} {m:CM}
theorem wq {o:Oper}{t:Nat}(h:t∉dg o):o.dst≠some t:=by
 intro e;apply h;simp [dg,e]
theorem He {o:Oper}{st:St}{V:View}{K:St->View->Prop}{R W:List Nat}{Q0:Q}
  (hnew:∀sc b x,Q0=.new sc b x->dg o=W/\dg o=R)(MZ:∀sc s b,Q0=.pI sc s b->s∈W)(happ:cz Q0≠6)
  (hv:pJ Q0 o.dst st V K) :
  ∃p q,(∀t,t∉dg o->p t=none)/\(∀s,s∉W->q s=none)/\K (ov p q st) V /\
   ∀(st2:St)(V2:View)(K2:St->View->Prop),V.Le V2->(∀s∈R,st2.boxes s=st.boxes s)->K2 (ov p q st2) V2->pJ Q0 o.dst st2 V2 K2:=by
 cases Q0 with
 | fail=>exact hv.elim
 | ret sc x=>
  obtain ⟨h1,h2⟩:=(cK sc _).1 hv
  refine ⟨one o.dst x,fun _=>none,fun t ht=>cN (wq ht),fun _ _=>rfl,by rw [←dH];exact h2,?_⟩
  intro st2 V2 K2 _ _ hK
  exact (cK sc _).2 ⟨h1,by rw [dH];exact hK⟩
 | new sc b x=>
  obtain ⟨e1,e2⟩:=hnew _ _ _ rfl
  simp only [pJ] at hv ⊢
  cases hd:o.dst with
  | none=>rw [hd] at hv;exact hv.elim
  | some d=>
   have hdl:dg o=[d]:=by simp [dg,hd]
   rw [hd] at hv
   dsimp only at hv ⊢
   split at hv
   ·rename_i hn
    obtain ⟨h1,h2⟩:=(cK sc _).1 hv
    refine ⟨one (some d) (x d),one (some d) b,fun t ht=>cN (by intro e;apply ht;rw [hdl];simpa using e.symm),fun s hs=>cN (by intro e;apply hs;rw [←e1,hdl];simpa using e.symm),by rw [←uG];exact h2,?_⟩
    intro st2 V2 K2 _ hR hK
    rw [hR d (by rw [←e2,hdl];simp),hn]
    exact (cK sc _).2 ⟨h1,by rw [uG];exact hK⟩
   ·exact hv.elim
 | pI sc s b=>
  simp only [pJ] at hv ⊢
  cases hd:o.dst with
  | some d=>rw [hd] at hv;exact hv.elim
  | none=>
   rw [hd] at hv
   dsimp only at hv ⊢
   obtain ⟨h1,h2⟩:=(cK sc _).1 hv
   refine ⟨fun _=>none,one (some s) b,fun _ _=>rfl,fun t ht=>cN (by intro e;apply ht;have:=MZ _ _ _ rfl;simp at e;rw [←e];exact this),by rw [←Az];exact h2,?_⟩
   intro st2 V2 K2 _ _ hK
   exact (cK sc _).2 ⟨h1,by rw [Az];exact hK⟩
 | rd a sh=>
  obtain ⟨x,h1,h2⟩:=sh.split hv
  obtain ⟨h3,h4⟩:=mX.1 h1
  refine ⟨one o.dst x,fun _=>none,fun t ht=>cN (wq ht),fun _ _=>rfl,by rw [←dH];exact h4,?_⟩
  intro st2 V2 K2 hle _ hK
  exact h2 _ (mX.2 ⟨IU hle h3,by rw [dH];exact hK⟩)
 | lD vs of size sh=>
  obtain ⟨x,h1,h2⟩:=sh.split hv
  refine ⟨one o.dst x,fun _=>none,fun t ht=>cN (wq ht),fun _ _=>rfl,by rw [←dH];exact h1.2,?_⟩
  intro st2 V2 K2 hle _ hK
  exact h2 _ ⟨h1.1,by rw [dH];exact hK⟩
 | app a b c d e f g i j=>exact absurd rfl happ
 | og a b c d e f g i=>exact absurd rfl happ
theorem rP {o:Oper}(h:kn (aV LF RF o.op)=true)(st:St)(V:View)(K:St->View->Prop):cf P T m o st V K=pJ (aH T st.aS st.boxes o.op) o.dst st V K:=by
 unfold cf
 split
 ·rename_i f args ts hop
  rw [hop] at h
  exfalso
  cases f with
  | func f=>
   simp only [aV] at h
   split at h
   ·split at h<;>cases h
   ·split at h
    ·cases h
    ·split at h<;>cases h
  | _=>cases h
 ·rename_i recv name args ts hop
  rw [hop] at h
  cases h
 ·rfl
theorem lY {ρ:Operand->Option SV}{bx:Nat->Option aO}{op:Op}:cz (aH T ρ bx op)=2->aV LF RF op=.alloc:=by
 have eZ:∀{q:Q} {X:Prop},cz q<=1->cz q=2->X:=by intro q X h h';omega
 unfold aH
 split
 case h_8=>
  split
  ·intro h;rcases ot (bx:=bx) with h'|h'|h'|h'<;>(rw [h'] at h;cases h)
  ·exact eZ (Nat.zero_le _)
 case h_9=>
  split
  ·intro h;rcases ma (bx:=bx) with h'|h'<;>(rw [h'] at h;cases h)
  ·exact eZ (Nat.zero_le _)
 case h_11=>
  split
  ·split
   ·split
    ·exact eZ nq
    ·exact eZ (Nat.zero_le _)
   ·exact eZ nq
  ·exact eZ (Nat.zero_le _)
 case h_17=>exact fun _=>rfl
 case h_18=>
  split
  ·split
   ·split
    ·exact eZ rZ
    ·exact eZ (Nat.zero_le _)
   ·exact eZ (Nat.zero_le _)
  ·exact eZ (Nat.zero_le _)
 case h_21=>
  split
  ·exact eZ ky
  ·exact eZ (Nat.zero_le _)
 case h_23 c=>
  split
  ·intro h
   exfalso
   split at h<;>(try split at h)<;>(try split at h)<;>(try split at h)<;>first|(rcases kx (bx:=bx) with h'|h'<;>(rw [h'] at h;cases h))|cases h
  ·split
   ·intro h;rcases l_ (T:=T) (bx:=bx) with h'|h'<;>(rw [h'] at h;cases h)
   ·exact eZ (Nat.zero_le _)
  ·split
   ·split
    ·exact eZ nr
    ·exact eZ (Nat.zero_le _)
   ·exact eZ (Nat.zero_le _)
  ·exact eZ (Nat.zero_le _)
 all_goals
  first
  | exact fun _=>rfl
  | exact eZ (Nat.zero_le _)
  | ((repeat' split)<;>first|exact eZ (Nat.zero_le _)|exact eZ (Nat.le_refl _)|exact eZ lE|(unfold rN;(repeat' split)<;>first|exact eZ (Nat.zero_le _)|exact eZ (Nat.le_refl _)))
theorem vi {st st2:St}{op:Op}(h:∀t∈fK op,st2.aq t=st.aq t):bD st2.aS (fJ op)=bD st.aS (fJ op):=
 dj _ fun _ hx=>kQ h (rB hx)
theorem kS {h:Hint}{o:Oper}{st:St}{V:View}{K:St->View->Prop}{R W:List Nat}(hq:kn (aV LF RF o.op)=true)(hrw:nf (aV LF RF o.op) h (dg o)=some (R,W))
  (hv:bX P T m h o st V K):∃p q,Outcome P T m h o st V R W K p q:=by
 have core:(∀st2:St,(∀t∈fK o.op,st2.aq t=st.aq t)->(∀s∈R,st2.boxes s=st.boxes s)->aH T st2.aS st2.boxes o.op=aH T st.aS st.boxes o.op) ->
   (∀sc b x,aH T st.aS st.boxes o.op=.new sc b x->dg o=W/\dg o=R)->(∀sc s b,aH T st.aS st.boxes o.op=.pI sc s b->s∈W) ->
   (∀(st2:St)(V2:View)(K2:St->View->Prop),(∀t∈fK o.op,st2.aq t=st.aq t)->cf P T m o st2 V2 K2->bX P T m h o st2 V2 K2) ->
   cf P T m o st V K->∃p q,Outcome P T m h o st V R W K p q:=by
  intro he hn hu hb hv
  rw [rP hq] at hv
  obtain ⟨p,q,h1,h2,h3,h4⟩:=He (R:=R) (W:=W) hn hu (fun hQ=>by
   obtain ⟨cl,hop,mP⟩:=(en (T:=T) (ρ:=st.aS) (bx:=st.boxes) (op:=o.op)).2.2 hQ
   rw [hop] at hq
   obtain ⟨B3,args,ts⟩:=cl
   dsimp only at mP
   subst mP
   cases hq) hv
  refine ⟨p,q,h1,h2,h3,fun st2 V2 K2 hle hsl hbx hK=>?_⟩
  refine hb st2 V2 K2 hsl ?_
  rw [rP hq,he st2 hsl hbx]
  exact h4 st2 V2 K2 hle hbx hK
 have wM:aV LF RF o.op=.pure\/aV LF RF o.op=.alloc->h=.free->(aV LF RF o.op=.alloc->R=dg o/\W=dg o)->∃p q,Outcome P T m h o st V R W K p q:=by
  intro hc hf hd
  subst hf
  refine core (fun st2 hs _=>?_) (fun sc b x hQ=>?_) (fun sc s b hQ=>?_) (fun _ _ _ _ hb=>hb) hv
  ·rw [Fl (bx':=st.boxes) hc]
   exact km fun x hx=>kQ hs hx
  ·have:=hd (lY (by rw [hQ];rfl));exact ⟨this.2.symm,this.1.symm⟩
  ·rcases (en (T:=T) (ρ:=st.aS) (bx:=st.boxes) (op:=o.op)).1 (by rw [hQ];rfl) with ⟨t,y,x,hop⟩|⟨⟨B3,args,ts⟩,hop,mP⟩
   ·rw [hop] at hc
    rcases hc with hc|hc<;>cases hc
   ·dsimp only at mP
    subst mP
    rw [hop] at hc
    rcases hc with hc|hc<;>cases hc
 generalize hc:aV LF RF o.op=c at hrw hq wM
 cases c with
 | pure=>
  cases h with
  | free=>exact wM (.inl rfl) rfl (fun e=>by cases e)
  | own l=>cases hrw
 | alloc=>
  cases h with
  | free=>
   simp only [nf,Option.some.injEq,Prod.mk.injEq] at hrw
   exact wM (.inr rfl) rfl (fun _=>⟨hrw.1.symm,hrw.2.symm⟩)
  | own l=>cases hrw
 | load=>
  cases h with
  | free=>cases hrw
  | own l=>
   simp only [nf,Option.some.injEq,Prod.mk.injEq] at hrw
   obtain ⟨rfl,rfl⟩:=hrw
   have hop:∃t a,o.op=.load t a:=by
    generalize o.op=op at hc
    cases op with
    | load t a=>exact ⟨t,a,rfl⟩
    | call c=>obtain ⟨B3,args,ts⟩:=c;cases B3 with
     | builtin b=>cases b<;>cases hc
     | value f=>cases f with
      | func f=>simp only [aV] at hc;split at hc<;>(try split at hc)<;>(try split at hc)<;>(try split at hc)<;>cases hc
      | _=>cases hc
     | _=>cases hc
    | _=>cases hc
   obtain ⟨t,a,hop⟩:=hop
   unfold bX at hv
   dsimp only at hv
   split at hv
   ·rename_i xs hxs
    split at hv
    ·rename_i hsub
     have eA:∀v,st.aS a=some v->∀s∈v.ids,s∈l:=by
      intro v q_ s hs
      rw [rY] at hsub
      apply hsub
      rw [hop] at hxs
      obtain ⟨u,hu,hm⟩:=oo hxs a (by simp [fJ])
      rw [hop]
      simp only [dz]
      rw [q_] at hu
      cases hu
      exact List.mem_flatMap.2 ⟨_,hm,hs⟩
     refine core (fun st2 hs hb=>?_) (fun sc b x hQ=>?_) (fun sc s b hQ=>?_) (fun st2 V2 K2 hs hb=>?_) hv
     ·rw [hop] at hs ⊢
      rw [km (ρ':=st.aS) fun x hx=>kQ hs hx]
      simp only [aH]
      split
      ·rename_i i v hi DN
       exact (Fo fun s hs'=>hb s (eA v DN s hs')).symm
      ·rfl
     ·have:=lY (LF:=LF) (RF:=RF) (op:=o.op) (T:=T) (ρ:=st.aS) (bx:=st.boxes) (by rw [hQ];rfl)
      rw [hop] at this;cases this
     ·rcases (en (T:=T) (ρ:=st.aS) (bx:=st.boxes) (op:=o.op)).1 (by rw [hQ];rfl) with ⟨t,y,x,hop'⟩|⟨c,hop',-⟩<;>(rw [hop] at hop';cases hop')
     ·unfold bX
      dsimp only
      rw [vi hs,hxs]
      dsimp only
      have:dz st2.boxes o.op (xs.flatMap SV.ids)=dz st.boxes o.op (xs.flatMap SV.ids):=by rw [hop];rfl
      rw [this,hsub]
      exact hb
    ·exact hv.elim
   ·exact hv.elim
 | store=>
  cases h with
  | free=>cases hrw
  | own l=>
   simp only [nf,Option.some.injEq,Prod.mk.injEq] at hrw
   obtain ⟨rfl,rfl⟩:=hrw
   have hop:∃t a x,o.op=.store t a x:=by
    generalize o.op=op at hc
    cases op with
    | store t a x=>exact ⟨t,a,x,rfl⟩
    | call c=>obtain ⟨B3,args,ts⟩:=c;cases B3 with
     | builtin b=>cases b<;>cases hc
     | value f=>cases f with
      | func f=>simp only [aV] at hc;split at hc<;>(try split at hc)<;>(try split at hc)<;>(try split at hc)<;>cases hc
      | _=>cases hc
     | _=>cases hc
    | _=>cases hc
   obtain ⟨t,a,y,hop⟩:=hop
   unfold bX at hv
   dsimp only at hv
   split at hv
   ·rename_i xs hxs
    split at hv
    ·rename_i hsub
     have eA:∀v,st.aS a=some v->∀s∈v.ids,s∈l:=by
      intro v q_ s hs
      rw [rY] at hsub
      apply hsub
      rw [hop] at hxs
      obtain ⟨u,hu,hm⟩:=oo hxs a (by simp [fJ])
      rw [hop]
      simp only [dz]
      rw [q_] at hu
      cases hu
      exact List.mem_flatMap.2 ⟨_,hm,hs⟩
     refine core (fun st2 hs hb=>?_) (fun sc b x hQ=>?_) (fun sc s b hQ=>?_) (fun st2 V2 K2 hs hb=>?_) hv
     ·rw [hop] at hs ⊢
      rw [km (ρ':=st.aS) fun x hx=>kQ hs hx]
      simp only [aH]
      split
      ·rename_i i v w hi DN hw
       exact (Dt fun s hs'=>hb s (eA v DN s hs')).symm
      ·rfl
     ·have:=lY (LF:=LF) (RF:=RF) (op:=o.op) (T:=T) (ρ:=st.aS) (bx:=st.boxes) (by rw [hQ];rfl)
      rw [hop] at this;cases this
     ·rw [hop] at hQ
      simp only [aH] at hQ
      split at hQ
      ·rename_i i v w hi DN hw
       exact eA v DN s (Bl hQ)
      ·cases hQ
     ·unfold bX
      dsimp only
      rw [vi hs,hxs]
      dsimp only
      have:dz st2.boxes o.op (xs.flatMap SV.ids)=dz st.boxes o.op (xs.flatMap SV.ids):=by rw [hop];rfl
      rw [this,hsub]
      exact hb
    ·exact hv.elim
   ·exact hv.elim
 | _=>cases hq
end Go.bq
namespace Go.bq
variable {P:Program} {T:cj} {LF RF:List Nat} {m:CM}
def Good (p:Nat->Option SV)(q:Nat->Option aO)(W D:List Nat)(st:St)(V:View)(K:St->View->Prop):St->View->Prop:=
 fun st2 V2=>V.Le V2/\(∀t,t∉D->st2.aq t=st.aq t)/\(∀s,s∉W->st2.boxes s=st.boxes s)/\K (ov p q st2) V2
theorem my {bx bx':Nat->Option aO}:∀{l:List Nat},(∀s∈l,bx' s=bx s)->l.flatMap (jh bx')=l.flatMap (jh bx)
 | [],_=>rfl
 | s::r,h=>by
  simp only [List.flatMap_cons]
  rw [my fun s hs=>h s (by simp [hs])]
  simp only [jh]
  rw [h s (by simp)]
theorem ko {bx bx':Nat->Option aO}:∀(n:Nat)(l:List Nat),(∀s∈reach bx n l,bx' s=bx s)->reach bx' n l=reach bx n l
 | 0,_,_=>rfl
 | n+1,l,h=>by
  have hl:∀s∈l,bx' s=bx s:=fun s hs=>h s (dA (n+1) l s hs)
  simp only [reach] at h ⊢
  rw [my hl]
  exact ko n _ h
theorem tD {bx bx':Nat->Option aO}{l:List Nat}(h:∀s∈l,bx' s=bx s):fw bx' l=fw bx l:=by
 unfold fw
 rw [Bool.eq_iff_iff,List.all_eq_true,List.all_eq_true]
 constructor
 ·intro g s hs;have:=g s hs;simp only [jh] at this ⊢;rw [h s hs] at this;exact this
 ·intro g s hs;have:=g s hs;simp only [jh] at this ⊢;rw [h s hs];exact this
theorem gi:∀{L:List Nat} {β:Nat->Nat} {k k':(Nat->Nat)->Prop},(∀β,k β->k' β)->jS L β k->jS L β k'
 | [],_,_,_,h,g=>h _ g
 | _::_,_,_,_,h,g=>fun b=>gi h (g b)
theorem rG {bx bx':Nat->Option aO}{b:aO}{β:Nat->Nat}{s:Nat}:∀{r:List Nat} {k k':Prop},(∀t∈r,bx' t=bx t)->(k->k')->HE bx b β s r k->HE bx' b β s r k'
 | [],_,_,_,h,g=>h g
 | t::r,k,k',hb,h,g=>by
  have hr:=fun t ht=>hb t (List.mem_cons_of_mem _ ht)
  simp only [HE] at g ⊢
  rw [hb t (by simp)]
  cases hbq:Nat.beq s t with
  | true=>rw [hbq] at g;exact rG hr h g
  | false=>
   rw [hbq] at g
   simp only [cond_false] at g ⊢
   split at g
   ·exact fun hn=>rG hr h (g hn)
   ·exact g
theorem gL {bx bx':Nat->Option aO}{β:Nat->Nat}{V:View}:∀{L:List Nat} {k k':Prop},(∀s∈L,bx' s=bx s)->((∀s∈L,∃b,bx s=some b/\(b.live->V.H (β s)))->k->k')->fP bx β V L k->fP bx' β V L k'
 | [],_,_,_,h,g=>h (fun s hs=>absurd hs (by simp)) g
 | s::r,k,k',hb,h,g=>by
  have hr:=fun t ht=>hb t (List.mem_cons_of_mem _ ht)
  simp only [fP] at g ⊢
  rw [hb s (by simp)]
  split at g
  ·rename_i b hbs
   refine fun h1 h2=>gL hr (fun hf=>rG hr (fun hk=>h (fun t ht=>?_) hk)) (g h1 h2)
   rcases List.mem_cons.1 ht with rfl|ht
   ·exact ⟨b,hbs,dU.1 h2⟩
   ·exact hf t ht
  ·exact g
theorem h_ {mv:Option (Nat×Nat)}:∀{cs zs:List C} {K K':List C->Prop},(∀c,K c->K' c)->jx mv cs zs K->jx mv cs zs K'
 | [],_,_,_,h,g=>h _ g
 | _::_,[],_,_,_,g=>g.elim
 | c::r,z::zr,K,K',h,g=>by
  simp only [jx] at g ⊢
  split at g
  ·split at g
   ·split at g
    ·obtain ⟨n,c,g⟩:=g
     exact ⟨n,c,h_ (fun cs hk=>h _ hk) g⟩
    ·exact g.elim
   ·exact g.elim
  ·split at g
   ·obtain ⟨v,h1,h2⟩:=sX.split _ g
    rename_i hc
    rw [hc] at *
    exact h2 _ (h_ (fun cs hk=>h _ hk) h1)
   ·exact h_ (fun cs hk=>h _ hk) g
variable {p:Nat->Option SV} {q:Nat->Option aO}
theorem ib {mv:Option (Nat×Nat)}{β:Nat->Nat}{V:View}{W:List Nat}:∀{L:List Nat} {st:St} {k k':St->Prop},(∀s∈L,q s=none/\s∈W) ->
  (∀st',(∀t,st'.aq t=st.aq t)->(∀s,s∉W->st'.boxes s=st.boxes s)->k (ov p q st')->k' st')->di T mv β V L (ov p q st) k->di T mv β V L st k'
 | [],st,k,k',_,h,g=>h st (fun _=>rfl) (fun _ _=>rfl) g
 | s::r,st,k,k',hq,h,g=>by
  obtain ⟨Iq,J8⟩:=hq s (by simp)
  have hr:∀s∈r,q s=none/\s∈W:=fun s hs=>hq s (by simp [hs])
  have Ib:∀b:aO,∀k1:St->Prop,(∀st',k1 st'=k st')->di T mv β V r ((ov p q st).box s b) k1->di T mv β V r (st.box s b) k':=by
   intro b k1 hk1 g
   rw [jD Iq] at g
   refine ib hr (fun st' h1 h2 hk=>h st' h1 (fun s' hs'=>?_) (by rw [←hk1];exact hk)) g
   rw [h2 s' hs',ah,if_neg (fun e=>hs' (by rw [e];exact J8))]
  simp only [di] at g ⊢
  rw [bT Iq] at g
  split at g
  ·rename_i cs ty hb
   split at g
   ·rename_i i hi
    exact h_ (fun cs' hk=>⟨hk.1,Ib _ _ (fun _=>rfl) hk.2⟩) g
   ·exact g
  ·obtain ⟨vs,h1,h2⟩:=g
   exact ⟨vs,h1,Ib _ _ (fun _=>rfl) h2⟩
  ·obtain ⟨h0,vs,h3,h1,h2⟩:=g
   exact ⟨h0,vs,h3,h1,Ib _ _ (fun _=>rfl) h2⟩
  ·exact g
theorem qf (V:View)(l:List Nat):V.Le (V.bW l):=fun _ _ h=>h
theorem Ch (V:View):V.Le V.shut:=fun _ _ h=>h
theorem EO {V V' dK:View}{P:Prop}{b:Nat}(h:V.Le dK)(h':V.Le V')(hb:P->V'.w.heap.size<=b\/V'.H b):V.Le (dK.shut.kg P b):=by
 intro x o hx
 obtain ⟨h1,h2⟩:=h x o hx
 obtain ⟨h3,h4⟩:=h' x o hx
 refine ⟨fun hh=>?_,h2⟩
 rcases hh with hh|⟨hp,e,-⟩
 ·exact h1 hh
 ·subst e
  rcases hb hp with h5|h5
  ·have:=aw h4;omega
  ·exact h3 h5
theorem E0 {m:Option Nat}{d:Nat}:dN m d=d\/dN m d=d+200000:=by
 cases m with
 | none=>exact .inl rfl
 | some m=>
  simp only [dN,k_]
  cases Nat.blt m 100000 with
  | true=>exact .inl rfl
  | false=>exact .inr rfl
theorem lS {give:Bool}{sh:Sh}{L:List Nat}{mm:Option Nat}{d:Nat}{ety:TypeId}{β:Nat->Nat}{st:St}{V V' dK:View}{K K':St->View->Prop}{W D:List Nat}{r':Value}
  (hL:∀s∈L,q s=none/\s∈W)(hm:∀k,mm=some k->k∈L)(hp:p d=none/\d∈D)(hq:q (dN mm d)=none/\dN mm d∈W)(hV:V.Le V')(hV2:V.Le dK)
  (hlv:∀s∈L,∃b,st.boxes s=some b/\(b.live->V'.H (β s)))(hK:∀s2 V2,Good p q W D st V K s2 V2->K' s2 V2)
  (h:bO T give sh L mm d ety β (ov p q st) V' K r' dK):bO T give sh L mm d ety β st V' K' r' dK:=by
 unfold bO at h ⊢
 obtain ⟨b',vs',h1,h2,h3⟩:=h
 have h2':vs'≠[]->V'.w.heap.size<=b'\/sU mm st β b':=by
  intro hne
  refine (h2 hne).imp id fun h=>?_
  unfold sU at h ⊢
  cases mm with
  | none=>exact h
  | some k=>
   dsimp only at h ⊢
   rw [bT (hL k (hm k rfl)).1] at h
   exact h
 have oa:vs'≠[]->V'.w.heap.size<=b'\/V'.H b':=by
  intro hne
  refine (h2' hne).imp id fun h=>?_
  unfold sU at h
  cases mm with
  | none=>exact h.elim
  | some k=>
   dsimp only at h
   obtain ⟨b0,hb0,hHk⟩:=hlv k (hm k rfl)
   rw [hb0] at h
   obtain ⟨cs,ty⟩:=b0
   cases cs with
   | lit cs=>have h:b'=β k:=h;rw [h];exact hHk bZ
   | row cs=>have h:b'=β k:=h;rw [h];exact hHk bM
   | aT vs=>have h:vs≠[]/\b'=β k:=h;rw [h.2];exact hHk (eg h.1)
 refine ⟨b',vs',h1,h2',Sh.mono h3 fun x hx=>⟨hx.1,?_⟩⟩
 have e1:(mO mm ety (ov p q st)).box (dN mm d) ⟨.aT vs',ety⟩=ov p q ((mO mm ety st).box (dN mm d) ⟨.aT vs',ety⟩):=by
  cases mm with
  | none=>exact jD hq.1
  | some k=>
   simp only [mO]
   rw [jD (hL k (hm k rfl)).1,jD hq.1]
 have hx2:=hx.2
 rw [e1] at hx2
 have hsub:∀s∈Ci mm L,q s=none/\s∈W:=by
  intro s hs
  cases mm with
  | none=>exact hL s hs
  | some k=>exact hL s (rD.1 hs).1
 refine ib hsub (fun st' g1 g2 hk=>?_) hx2
 rw [iB (fun k hk=>by cases hk;exact hp.1)] at hk
 refine hK _ _ ⟨EO hV2 hV oa,?_,?_,hk⟩
 ·intro t ht
  rw [cD,if_neg (fun e=>ht (by rw [e];exact hp.2)),g1]
  cases mm<;>rfl
 ·intro s hs
  show st'.boxes s=_
  rw [g2 s hs,ah,if_neg (fun e=>hs (by rw [e];exact hq.2))]
  cases mm with
  | none=>rfl
  | some k=>simp only [mO];rw [ah,if_neg (fun e=>hs (by rw [e];exact (hL k (hm k rfl)).2))]
theorem EU {bx:Nat->Option aO}{L:List Nat}(hcl:fw bx L=true):∀k,k∈mW bx L->k∈L:=by
 intro k hk
 unfold mW at hk
 obtain ⟨s,hs,hk⟩:=List.mem_flatMap.1 (br.1 hk)
 split at hk
 ·rename_i cs ty hb
  refine fy hcl hs hb k ?_
  have:∀cs:List C,k∈lT cs->k∈cs.flatMap C.ids:=by
   intro cs
   induction cs with
   | nil=>exact fun h=>nomatch h
   | cons c r ih=>
    intro h
    rw [List.flatMap_cons,List.mem_append]
    cases c<;>simp only [lT,List.mem_cons] at h<;>first
     | exact .inr (ih h)
     | (rcases h with h|h
        ·left;simp [C.ids,h]
        ·exact .inr (ih h))
  exact this cs hk
 ·cases hk
theorem qV {xs:List SV}:∀k,k∈jz xs->k∈xs.flatMap SV.ids:=by
 intro k
 induction xs with
 | nil=>exact fun h=>nomatch h
 | cons x r ih=>
  intro h
  rw [List.flatMap_cons,List.mem_append]
  unfold jz at h
  split at h
  ·rename_i heq;cases heq
  ·rename_i s n c r' heq;cases heq;exact .inl h
  ·rename_i s n c r' heq;cases heq;exact .inl h
  ·cases h
  ·rename_i heq;cases heq;exact .inr (ih h)
theorem o_ {bx bx':Nat->Option aO}{L:List Nat}(h:∀s∈L,bx' s=bx s):mW bx' L=mW bx L:=by
 unfold mW
 congr 1
 induction L with
 | nil=>rfl
 | cons s r ih=>simp only [List.flatMap_cons];rw [h s (by simp),ih fun s hs=>h s (by simp [hs])]
theorem fU {st:St}{mm:Option Nat}{d:Nat}(h:q (dN mm d)=none):iA (ov p q st) mm d=iA st mm d:=by
 unfold iA;rw [bT h]
theorem oX {bx bx':Nat->Option aO}{β:Nat->Nat}{N:Nat}{L:List Nat}(h:∀s∈L,bx' s=bx s):L.map (cM bx' β N)=L.map (cM bx β N):=
 List.map_congr_left fun s hs=>by unfold cM;rw [h s hs]
theorem f_ {f:FuncId}{xs:List SV}{ty:TypeId}{dst:Option Nat}{st:St}{V:View}{K:St->View->Prop}{W D:List Nat}
  (hm:m=.none\/((m=.bW\/m=.give)/\(∀s∈reach (ov p q st).boxes 3 (dedup (xs.flatMap SV.ids)),q s=none/\s∈W)/\∀k,dst=some k->∀mm,q (dN mm k)=none/\dN mm k∈W))(hd:∀k,dst=some k->p k=none/\k∈D)
  {K':St->View->Prop}(hK:∀s2 V2,Good p q W D st V K s2 V2->K' s2 V2)(hv:dW P T m f xs ty dst (ov p q st) V K):dW P T m f xs ty dst st V K':=by
 have hput:∀(st':St)(x:SV),(∀t,st'.aq t=st.aq t)->∀t,t∉D->(st'.put dst x).aq t=st.aq t:=by
  intro st' x h t ht
  cases dst with
  | none=>exact h t
  | some d=>rw [cD,if_neg (fun e=>ht (by rw [e];exact (hd d rfl).2))];exact h t
 have hbx:∀(st':St)(x:SV),(st'.put dst x).boxes=st'.boxes:=by intro st' x;cases dst<;>rfl
 unfold dW at hv ⊢
 split at hv
 ·exact hv.elim
 ·rename_i sh hsh
  have hre:∀L,reach (ov p q st).boxes 3 (dedup (xs.flatMap SV.ids))=L->(∀s∈L,q s=none)->reach st.boxes 3 (dedup (xs.flatMap SV.ids))=L:=by
   intro L hL Re
   rw [←hL]
   exact ko 3 _ fun s hs=>(bT (Re s (by rw [←hL];exact hs))).symm
  have Hz:∀s∈xs.flatMap SV.ids,s∈reach (ov p q st).boxes 3 (dedup (xs.flatMap SV.ids)):=fun s hs=>dA 3 _ s (br.2 hs)
  generalize hr:reach (ov p q st).boxes 3 (dedup (xs.flatMap SV.ids))=L at hv hm Hz
  cases L with
  | nil=>
   rw [hre _ hr (fun s hs=>nomatch hs)]
   have plain:(∀V':View,V.Le V'->ab P f (aQ (fun _=>0) xs) V' fun r dK=>sh.ex fun x=>r=x.den (fun _=>0)/\K ((ov p q st).put dst x) dK) ->
     ∀V':View,V.Le V'->ab P f (aQ (fun _=>0) xs) V' fun r dK=>sh.ex fun x=>r=x.den (fun _=>0)/\K' (st.put dst x) dK:=by
    intro hv V' hV'
    refine (hv V' hV').mono fun r dK hle hk=>Sh.mono hk fun x hx=>⟨hx.1,?_⟩
    have h2:=hx.2
    rw [iB (fun k hk=>(hd k hk).1)] at h2
    exact hK _ _ ⟨hV'.trans hle,hput st x fun _=>rfl,fun s _=>by rw [hbx],h2⟩
   rcases hm with rfl|⟨rfl|rfl,-,hnb⟩
   ·exact plain hv
   ·exact plain hv
   ·dsimp only at hv ⊢
    split at hv
    ·rename_i d ety hgt
     rw [fU (hnb d rfl Option.none).1] at hv
     split at hv
     ·exact hv.elim
     ·rename_i hfree
      intro V' hV'
      refine (hv V' hV').mono fun r dK hle hk=>?_
      exact lS (W:=W) (D:=D) (fun s hs=>absurd hs (by simp)) (fun k hk=>by cases hk) (hd d rfl) (hnb d rfl Option.none) hV' (hV'.trans hle) (fun s hs=>absurd hs (by simp)) hK hk
    ·exact hv.elim
  | cons s r=>
   dsimp only at hv
   split at hv
   ·exact hv.elim
   ·rename_i hcl
    have bW:m=.bW\/m=.give->(∀t∈s::r,q t=none/\t∈W)->(∀k,dst=some k->∀mm,q (dN mm k)=none/\dN mm k∈W) ->
      ∀{give:Bool} {mm:Option Nat} {d:Nat} {ety:TypeId},dst=some d->(∀k,mm=some k->k∈s::r) ->
      (∀V':View,V.Le V'->jS (s::r) (fun _=>0) fun β=>fP (ov p q st).boxes β V' (s::r) (ab P f (aQ β xs) (V'.bW ((s::r).map (cM (ov p q st).boxes β V'.w.heap.size))) (bO T give sh (s::r) mm d ety β (ov p q st) V' K))) ->
      ∀V':View,V.Le V'->jS (s::r) (fun _=>0) fun β=>fP st.boxes β V' (s::r) (ab P f (aQ β xs) (V'.bW ((s::r).map (cM st.boxes β V'.w.heap.size))) (bO T give sh (s::r) mm d ety β st V' K')):=by
     intro _ hmm hnb give mm d ety hdst MT hv V' hV'
     have yE:∀t∈s::r,st.boxes t=(ov p q st).boxes t:=fun t ht=>(bT (hmm t ht).1).symm
     refine gi (fun β hb=>?_) (hv V' hV')
     rw [oX (bx:=(ov p q st).boxes) yE]
     refine gL (bx:=(ov p q st).boxes) yE (fun hH hfn=>?_) hb
     refine hfn.mono fun r' dK hle hk=>?_
     have hle2:V.Le dK:=(hV'.trans (qf V' _)).trans hle
     exact lS hmm MT (hd d hdst) (hnb d hdst mm) hV' hle2 (fun t ht=>by rw [yE t ht];exact hH t ht) hK hk
    have base:m=.bW\/m=.give->(∀t∈s::r,q t=none/\t∈W)/\(∀k,dst=some k->∀mm,q (dN mm k)=none/\dN mm k∈W):=by
     intro h
     rcases hm with rfl|⟨-,h1,h2⟩
     ·rcases h with h|h<;>cases h
     ·exact ⟨h1,h2⟩
    have OT:(∀t∈s::r,q t=none/\t∈W)->fw st.boxes (s::r)=true:=fun hmm=>by
     rw [tD (bx:=(ov p q st).boxes) (fun t ht=>(bT (hmm t ht).1).symm)];exact hcl
    split at hv
    ·exact hv.elim
    ·exact hv.elim
    ·
     obtain ⟨hmm,hnb⟩:=base (.inr rfl)
     rw [hre _ hr (fun t ht=>(hmm t ht).1)]
     dsimp only
     rw [OT hmm]
     dsimp only
     have hmv:=o_ (bx:=(ov p q st).boxes) (bx':=st.boxes) (L:=s::r) (fun t ht=>(bT (hmm t ht).1).symm)
     rw [hmv]
     split at hv
     ·rename_i d ety h1 h2 h3
      rw [fU (hnb d rfl _).1] at hv
      split at hv
      ·exact hv.elim
      ·rename_i hfree
       exact bW (.inr rfl) hmm hnb rfl (fun k hk=>by cases hk) hv
     ·rename_i d ety k h1 h2 h3
      rw [fU (hnb d rfl _).1] at hv
      split at hv
      ·exact hv.elim
      ·rename_i hfree
       exact bW (.inr rfl) hmm hnb rfl (fun j hj=>by cases hj;exact Hz k (qV k (by rw [h2];simp))) hv
     ·exact hv.elim
    ·
     obtain ⟨hmm,hnb⟩:=base (.inl rfl)
     rw [hre _ hr (fun t ht=>(hmm t ht).1)]
     dsimp only
     rw [OT hmm]
     dsimp only
     have yE:∀t∈s::r,st.boxes t=(ov p q st).boxes t:=fun t ht=>(bT (hmm t ht).1).symm
     have hmv:=o_ (bx:=(ov p q st).boxes) (bx':=st.boxes) (L:=s::r) yE
     rw [hmv]
     split at hv
     ·intro V' hV'
      refine gi (fun β hb=>?_) (hv V' hV')
      rw [oX (bx:=(ov p q st).boxes) yE]
      refine gL (bx:=(ov p q st).boxes) yE (fun _ hfn=>?_) hb
      refine hfn.mono fun r' dK hle hk=>Sh.mono hk fun x hx=>⟨hx.1,?_⟩
      refine ib hmm (fun st' h1 h2 hk=>?_) hx.2
      rw [iB (fun k hk=>(hd k hk).1)] at hk
      exact hK _ _ ⟨((hV'.trans (qf V' _)).trans hle).trans (Ch _),hput st' x h1,fun t ht=>by rw [hbx];exact h2 t ht,hk⟩
     ·rename_i k hk
      have Ik:k∈s::r:=EU hcl k (by rw [hk];simp)
      have hty:iN st.boxes k=iN (ov p q st).boxes k:=by unfold iN;rw [yE k Ik]
      rw [hty]
      split at hv
      ·rename_i d ety hbt
       rw [fU (hnb d rfl _).1] at hv
       split at hv
       ·exact hv.elim
       ·rename_i hfree
        exact bW (.inl rfl) hmm hnb rfl (fun j hj=>by cases hj;exact Ik) hv
      ·exact hv.elim
     ·exact hv.elim
    ·rcases hm with h|h
     ·cases h
     ·rcases h.1 with h|h<;>cases h
theorem zt {bx:Nat->Option aO}:∀(n:Nat) {l l':List Nat},(∀x∈l,x∈l')->∀x∈reach bx n l,x∈reach bx n l'
 | 0,_,_,h,x,hx=>h x hx
 | n+1,l,l',h,x,hx=>by
  simp only [reach] at hx ⊢
  refine zt n (fun y hy=>?_) x hx
  rw [br,List.mem_append] at hy ⊢
  rcases hy with hy|hy
  ·exact .inl (h y hy)
  ·obtain ⟨z,hz,hy⟩:=List.mem_flatMap.1 hy
   exact .inr (List.mem_flatMap.2 ⟨z,h z hz,hy⟩)
theorem pv {f:FuncId}{xs:List SV}{ty:TypeId}{dst:Option Nat}{st:St}{V:View}{K:St->View->Prop}{W D:List Nat}
  (hm:m=.none\/((m=.bW\/m=.give)/\(∀s∈reach (ov p q st).boxes 3 (dedup (xs.flatMap SV.ids)),q s=none/\s∈W)/\∀k,dst=some k->∀mm,q (dN mm k)=none/\dN mm k∈W))(hd:∀k,dst=some k->p k=none/\k∈D)
  {K':St->View->Prop}(hK:∀s2 V2,Good p q W D st V K s2 V2->K' s2 V2)(hv:iF P T m f xs ty dst (ov p q st) V K):iF P T m f xs ty dst st V K':=by
 have hm0:=hm
 cases m with
 | bW=>
  obtain ⟨h1,h2⟩:(∀s∈reach (ov p q st).boxes 3 (dedup (xs.flatMap SV.ids)),q s=none/\s∈W)/\∀k,dst=some k->∀mm,q (dN mm k)=none/\dN mm k∈W:=by
   rcases hm with h|⟨-,h1,h2⟩
   ·cases h
   ·exact ⟨h1,h2⟩
  unfold iF at hv ⊢
  dsimp only at hv ⊢
  rw [nj (bx:=st.boxes) (bx':=(ov p q st).boxes) (fun s hs=>bT (h1 s (dA 3 _ s (br.2 hs))).1)] at hv
  split at hv
  ·rename_i vs c xs' e
   exact ⟨fun he=>⟨(hv.1 he).1,f_ (.inr ⟨.inl rfl,fun s hs=>h1 s (zt 3 (fun x hx=>br.2 (rV e x (br.1 hx))) s hs),h2⟩) hd hK (hv.1 he).2⟩,fun he=>f_ hm0 hd hK (hv.2 he)⟩
  ·exact f_ hm0 hd hK hv
 | _=>exact f_ hm0 hd hK hv
theorem wL {p2:Nat->Option SV}{q2:Nat->Option aO}{st:St}(hp:∀t,p t=none\/p2 t=none)(hq:∀t,q t=none\/q2 t=none):ov p q (ov p2 q2 st)=ov p2 q2 (ov p q st):=by
 unfold ov
 congr 1
 ·funext t
  dsimp only
  rcases hp t with h|h<;>rw [h]
 ·funext t
  dsimp only
  rcases hq t with h|h<;>rw [h]
def vR:Q->Option Nat
 | .app old _ _ _ _ _ _ _ _=>old
 | .og s _ _ _ _ _ _ _=>some s
 | _=>none
def Cq (T:cj)(bx:Nat->Option aO)(l:Option (List SV))(ts:List TypeId):Q:=
 match l,ts with
 | some [b,x],[t,t']=>match au T t,au T t' with
  | some i,some i'=>match i.k,i'.k with
   | .slice e,.slice _=>match au T e with
    | some ei=>bI bx e ei b x
    | none=>.fail
   | _,_=>.fail
  | _,_=>.fail
 | _,_=>.fail
def vS (bx:Nat->Option aO)(sz:Nat)(x:SV):Option (OA×Nat ⊕ List Value):=
 match x with
 | .c (.v (.slice a k _))=>some (.inl (a,k))
 | .c (.jZ s o k _)=>match bx s with
  | some ⟨.row ws,_⟩=>some (.inr (ij ws o (k*sz)))
  | _=>match dq bx s with
   | some ws=>if Nat.ble (o+k*sz) ws.length then some (.inr ((ws.drop o).take (k*sz))) else none
   | none=>none
 | _=>none
def B0 (bx:Nat->Option aO)(e:TypeId)(ei:TI)(b:SV)(src:OA×Nat ⊕ List Value):Q:=
 match b with
 | .c (.v (.slice a n c))=>.app none a [] n c src ei.size ei.bytes e
 | .c (.jZ s 0 n c)=>match dq bx s,iN bx s with
  | some vs,some ty=>if Nat.beq ty e then .app (some s) none vs n c src ei.size ei.bytes e else .fail
  | _,_=>.fail
 | .c (.iI s n c)=>match bx s with
  | some ⟨.aT vs,ty⟩=>if Nat.beq ty e then .og s vs n c src ei.size ei.bytes e else .fail
  | _=>.fail
 | _=>.fail
theorem rM {bx:Nat->Option aO}{e:TypeId}{ei:TI}{b x:SV}:bI bx e ei b x=match ja ei.zero with
  | none=>.fail
  | some zs=>if Nat.beq ei.bytes 0||Nat.beq ei.size 0||!(Nat.beq ei.size zs.length) then .fail else match vS bx ei.size x with
   | none=>.fail
   | some src=>B0 bx e ei b src:=rfl
theorem CJ {bx bx':Nat->Option aO}{sz:Nat}{x:SV}:(∀s∈x.ids,bx' s=bx s)->vS bx sz x=vS bx' sz x:=by
 unfold vS
 split
 ·exact fun _=>rfl
 ·intro h;unfold dq;rw [h _ (by simp [SV.ids,C.ids])]
 ·exact fun _=>rfl
theorem DY {bx bx':Nat->Option aO}{e:TypeId}{ei:TI}{b:SV}{src:OA×Nat ⊕ List Value}:(∀s∈b.ids,bx' s=bx s)->B0 bx e ei b src=B0 bx' e ei b src:=by
 unfold B0
 split
 ·exact fun _=>rfl
 ·intro h;unfold dq iN;rw [h _ (by simp [SV.ids,C.ids])]
 ·intro h;rw [h _ (by simp [SV.ids,C.ids])]
 ·exact fun _=>rfl
theorem Bf {bx bx':Nat->Option aO}{e:TypeId}{ei:TI}{b x:SV}(h:∀s∈b.ids++x.ids,bx' s=bx s):bI bx e ei b x=bI bx' e ei b x:=by
 rw [rM,rM,CJ fun s hs=>h s (List.mem_append_right _ hs)]
 have:=fun src=>DY (bx:=bx) (bx':=bx') (e:=e) (ei:=ei) (b:=b) (src:=src) fun s hs=>h s (List.mem_append_left _ hs)
 simp only [this]
theorem zh {bx:Nat->Option aO}{e:TypeId}{ei:TI}{b x:SV}:∀s,vR (bI bx e ei b x)=some s->s∈b.ids:=by
 intro s h
 unfold bI at h
 split at h
 ·cases h
 ·split at h
  ·cases h
  ·dsimp only at h
   split at h
   ·cases h
   ·split at h
    ·cases h
    ·split at h
     ·split at h
      ·cases h;simp [SV.ids,C.ids]
      ·cases h
     ·cases h
    ·split at h
     ·split at h
      ·cases h;simp [SV.ids,C.ids]
      ·cases h
     ·cases h
    ·cases h
theorem GZ {bx bx':Nat->Option aO}{ys:List SV}{ts:List TypeId}{R:List Nat}(h:∀s∈ys.flatMap SV.ids,bx' s=bx s)(hR:∀s∈ys.flatMap SV.ids,s∈R) :
  Cq T bx (some ys) ts=Cq T bx' (some ys) ts/\∀s,vR (Cq T bx (some ys) ts)=some s->s∈R:=by
 unfold Cq
 split
 ·rename_i b x t t' hb
  cases hb
  split
  ·split
   ·split
    ·exact ⟨Bf fun s hs=>h s (by simpa using hs),fun s hs=>hR s (by simp [zh s hs])⟩
    ·exact ⟨rfl,fun s hs=>nomatch hs⟩
   ·exact ⟨rfl,fun s hs=>nomatch hs⟩
  ·exact ⟨rfl,fun s hs=>nomatch hs⟩
 ·exact ⟨rfl,fun s hs=>nomatch hs⟩
theorem Dn {bx:Nat->Option aO}{e:TypeId}{ei:TI}{b x:SV}:cz (bI bx e ei b x)=6\/bI bx e ei b x=.fail:=by
 unfold bI
 split
 ·exact .inr rfl
 ·split
  ·exact .inr rfl
  ·dsimp only
   split
   ·exact .inr rfl
   ·split<;>(try split)<;>(try split)<;>first|exact .inl rfl|exact .inr rfl
theorem Fk {ρ:Operand->Option SV}{bx:Nat->Option aO}{args:Array Operand}{ts:Array TypeId}:cz (aH T ρ bx (.call ⟨.builtin .append,args,ts⟩))=6\/aH T ρ bx (.call ⟨.builtin .append,args,ts⟩)=.fail:=by
 simp only [aH]
 split
 ·split
  ·split
   ·split
    ·exact Dn
    ·exact .inr rfl
   ·exact .inr rfl
  ·exact .inr rfl
 ·exact .inr rfl
theorem xg {Q0:Q}{dst:Option Nat}{st:St}{V:View}{K K':St->View->Prop}{W D:List Nat}(ht:cz Q0=6\/Q0=.fail)
  (ho:∀s,vR Q0=some s->q s=none/\s∈W)(hd:∀k,dst=some k->(p k=none/\k∈D)/\∀s,q (k_ s k)=none/\k_ s k∈W)(hd0:∀k,dst=some k->q k=none/\k∈W)
  (hK:∀s2 V2,Good p q W D st V K s2 V2->K' s2 V2)(h:pJ Q0 dst (ov p q st) V K):pJ Q0 dst st V K':=by
 cases Q0 with
 | og s vs n c x size bytes ty=>
  simp only [pJ] at h ⊢
  cases dst with
  | none=>exact h.elim
  | some d=>
   dsimp only at h ⊢
   obtain ⟨⟨hp,hD⟩,hn⟩:=hd d rfl
   obtain ⟨hs,J8⟩:=ho s rfl
   have core:∀k xs,oY s vs n c size bytes ty d (ov p q st) V K k xs->oY s vs n c size bytes ty d st V K' k xs:=by
    rintro k xs ⟨h1,h2,h3,h4,h5,h6⟩
    refine ⟨h1,h2,h3,h4,h5,?_⟩
    rw [bT (hn s).1] at h6
    split at h6
    ·exact h6.elim
    ·intro spare c' g1 g2
     have:=h6 spare c' g1 g2
     rw [jD hs,jD (hn s).1,iB (fun k hk=>by cases hk;exact hp)] at this
     refine hK _ _ ⟨View.Le.refl V,?_,?_,this⟩
     ·intro t ht;rw [cD,if_neg (fun e=>ht (by rw [e];exact hD))];rfl
     ·intro t ht
      show ((st.box s _).box _ _).boxes t=_
      rw [ah,if_neg (fun e=>ht (by rw [e];exact (hn s).2)),ah,if_neg (fun e=>ht (by rw [e];exact J8))]
   cases x with
   | inr xs=>exact core _ _ h
   | inl ak=>obtain ⟨xs,h1,h2,h3⟩:=h;exact ⟨xs,h1,h2,core _ _ h3⟩
 | app old ba vs n c x size bytes ty=>
  simp only [pJ] at h ⊢
  cases dst with
  | none=>exact h.elim
  | some d=>
   dsimp only at h ⊢
   obtain ⟨⟨hp,hD⟩,hn⟩:=hd d rfl
   cases old with
   | some s=>
    dsimp only at h ⊢
    obtain ⟨hs,J8⟩:=ho s rfl
    have core:∀k xs,xN s vs n c size bytes ty d (ov p q st) V K k xs->xN s vs n c size bytes ty d st V K' k xs:=by
     rintro k xs ⟨h1,h2,h3,h4,h5,h6⟩
     refine ⟨h1,h2,h3,h4,h5,?_⟩
     rw [bT (hn s).1] at h6
     split at h6
     ·exact h6.elim
     ·intro b J spare c' g1 g2
      have:=h6 b J spare c' g1 g2
      rw [jD hs,jD (hn s).1,iB (fun k hk=>by cases hk;exact hp)] at this
      refine hK _ _ ⟨View.Le.refl V,?_,?_,this⟩
      ·intro t ht;rw [cD,if_neg (fun e=>ht (by rw [e];exact hD))];rfl
      ·intro t ht
       show ((st.box s _).box _ _).boxes t=_
       rw [ah,if_neg (fun e=>ht (by rw [e];exact (hn s).2)),ah,if_neg (fun e=>ht (by rw [e];exact J8))]
    cases x with
    | inr xs=>exact core _ _ h
    | inl ak=>obtain ⟨xs,h1,h2,h3⟩:=h;exact ⟨xs,h1,h2,core _ _ h3⟩
   | none=>
    dsimp only at h ⊢
    obtain ⟨q1,q2⟩:=hd0 d rfl
    obtain ⟨vs',g1,g2,g3,g4,h⟩:=h
    have core:∀k xs,xO vs' n c size bytes ty d (ov p q st) V K k xs->xO vs' n c size bytes ty d st V K' k xs:=by
     rintro k xs ⟨h1,h2,h3,h4,h5⟩
     refine ⟨h1,h2,h3,h4,?_⟩
     rw [bT q1] at h5
     split at h5
     ·exact h5.elim
     ·intro spare c' k1 k2
      have:=h5 spare c' k1 k2
      rw [jD q1,iB (fun k hk=>by cases hk;exact hp)] at this
      refine hK _ _ ⟨View.Le.refl V,?_,?_,this⟩
      ·intro t ht;rw [cD,if_neg (fun e=>ht (by rw [e];exact hD))];rfl
      ·intro t ht
       show (st.box d _).boxes t=_
       rw [ah,if_neg (fun e=>ht (by rw [e];exact q2))]
    refine ⟨vs',g1,g2,g3,g4,?_⟩
    cases x with
    | inr xs=>exact core _ _ h
    | inl ak=>
     obtain ⟨xs,h1,h2,h3,h4⟩:=h
     refine ⟨xs,h1,h2,fun e=>?_,fun e=>core _ _ (h4 e)⟩
     have:=h3 e
     rw [iB (fun k hk=>by cases hk;exact hp)] at this
     refine hK _ _ ⟨View.Le.refl V,?_,fun t ht=>rfl,this⟩
     intro t ht;rw [cD,if_neg (fun e=>ht (by rw [e];exact hD))]
 | fail=>exact h.elim
 | _=>rcases ht with ht|ht<;>cases ht
theorem nM {h:Hint}{o:Oper}{st:St}{V:View}{K:St->View->Prop}{R W:List Nat}
  (hm:kn (aV LF RF o.op)=true\/(aV LF RF o.op=.call/\m=.none)\/((aV LF RF o.op=.iS/\m=.bW)\/(aV LF RF o.op=.give/\m=.give)\/aV LF RF o.op=.app))
  (hrw:nf (aV LF RF o.op) h (dg o)=some (R,W))(hp:∀t,t∈fK o.op\/t∈dg o->p t=none)(hq:∀s∈R,q s=none)
  (Pl:∀s∈W,q s=none){K':St->View->Prop}(hK:∀s2 V2,Good p q W (dg o) st V K s2 V2->K' s2 V2)(hv:bX P T m h o (ov p q st) V K):bX P T m h o st V K':=by
 have A4:∀t∈fK o.op,st.aq t=(ov p q st).aq t:=fun t ht=>by simp [ov,hp t (.inl ht)]
 rcases hm with hm|hm
 ·obtain ⟨p2,q2,hO⟩:=kS hm hrw hv
  refine hO.again st V _ (View.Le.refl V) A4 (fun s hs=>(bT (hq s hs)).symm) ?_
  refine hK _ _ ⟨View.Le.refl V,fun t ht=>by simp [ov,hO.pd t ht],fun s hs=>by simp [ov,hO.qd s hs],?_⟩
  rw [wL]
  ·exact hO.next
  ·intro t
   by_cases h:t∈dg o
   ·exact .inl (hp t (.inr h))
   ·exact .inr (hO.pd t h)
  ·intro s
   by_cases h:s∈W
   ·exact .inl (Pl s h)
   ·exact .inr (hO.qd s h)
 ·
  have hval:∀(x:Operand),x∈o.op.operands.toList->(ov p q st).aS x=st.aS x:=fun x hx=>GV fun t e=>hp t (.inl (rC hx e))
  have hdst:∀k,o.dst=some k->p k=none/\k∈dg o:=fun k hk=>by
   have:k∈dg o:=by simp [dg,hk]
   exact ⟨hp k (.inr this),this⟩
  have body:(¬aV LF RF o.op=.app)->∀(hh:∀xs f ss FV args ts,o.op=.call ⟨.value FV,args,ts⟩->bD (ov p q st).aS args.toList=some xs->(ov p q st).aS FV=some (.c (.yn f ss)) ->
    m=.none\/((m=.bW\/m=.give)/\(∀s∈reach (ov p q st).boxes 3 (dedup ((xs++qK ss).flatMap SV.ids)),q s=none/\s∈W)/\∀k,o.dst=some k->∀mm,q (dN mm k)=none/\dN mm k∈W)),
    cf P T m o (ov p q st) V K->cf P T m o st V K':=by
   intro happ hh hv
   unfold cf at hv ⊢
   split at hv
   ·rename_i FV args ts hop
    have e1:bD (ov p q st).aS args.toList=bD st.aS args.toList:=dj _ fun x hx=>hval x (by rw [hop];simp [Op.operands,Call.operands];exact .inr (by simpa using hx))
    have e2:(ov p q st).aS FV=st.aS FV:=hval FV (by rw [hop];simp [Op.operands,Call.operands])
    split at hv
    ·rename_i xs hxs
     split at hv
     ·rename_i f ss hf
      have hmm:=hh _ _ _ _ _ _ hop hxs hf
      rw [e1] at hxs
      rw [e2] at hf
      simp only [hxs,hf]
      exact pv hmm hdst hK hv
     ·exact hv.elim
    ·exact hv.elim
   ·rename_i recv name args ts hop
    have hmn:m=.none:=by
     rw [hop] at hm
     rcases hm with ⟨-,h⟩|⟨h,-⟩|⟨h,-⟩|h
     ·exact h
     ·cases h
     ·cases h
     ·cases h
    have e1:bD (ov p q st).aS args.toList=bD st.aS args.toList:=dj _ fun x hx=>hval x (by rw [hop];simp [Op.operands,Call.operands];exact .inr (by simpa using hx))
    have e2:(ov p q st).aS recv=st.aS recv:=hval recv (by rw [hop];simp [Op.operands,Call.operands])
    split at hv
    ·rename_i xs hxs
     split at hv
     ·rename_i t v hf
      split at hv
      ·rename_i f Ex
       rw [e1] at hxs
       rw [e2] at hf
       simp only [hxs,hf,Ex]
       exact pv (.inl hmn) hdst hK hv
      ·exact hv.elim
     ·exact hv.elim
    ·exact hv.elim
   ·rename_i hnc J4
    exfalso
    have hc4:aV LF RF o.op=.call\/aV LF RF o.op=.iS\/aV LF RF o.op=.give:=by
     rcases hm with ⟨h,-⟩|⟨h,-⟩|⟨h,-⟩|h
     ·exact .inl h
     ·exact .inr (.inl h)
     ·exact .inr (.inr h)
     ·exact absurd h happ
    clear hm happ hh
    generalize hop:o.op=op at hc4 hnc J4
    cases op with
    | call c=>
     obtain ⟨B3,args,ts⟩:=c
     cases B3 with
     | builtin b=>cases b<;>rcases hc4 with h|h|h<;>cases h
     | value f=>exact hnc f args ts rfl
     | invoke r nm=>exact J4 r nm args ts rfl
    | _=>rcases hc4 with h|h|h<;>cases h
  have Nn:∀l:List Nat,W=l++dg o++(dg o).map (·+ 200000)->∀k,o.dst=some k->∀mm,q (dN mm k)=none/\dN mm k∈W:=by
   intro l hW k hk mm
   have:dN mm k∈W:=by
    rw [hW]
    have hkd:=(hdst k hk).2
    rcases E0 (m:=mm) (d:=k) with h|h<;>rw [h]<;>simp [hkd]
   exact ⟨Pl _ this,this⟩
  have own:∀l:List Nat,h=.own l->R=l->W=l++dg o++(dg o).map (·+ 200000)->(aV LF RF o.op=.iS\/aV LF RF o.op=.give\/aV LF RF o.op=.app)->(¬aV LF RF o.op=.app->m=.bW\/m=.give)->bX P T m h o st V K':=by
   intro l hh hR hW hcl hmm
   subst hh hR
   unfold bX at hv ⊢
   dsimp only at hv ⊢
   split at hv
   ·rename_i ys hys
    split at hv
    ·rename_i hsub
     have e0:bD (ov p q st).aS (fJ o.op)=bD st.aS (fJ o.op):=dj _ fun x hx=>hval x (rB hx)
     rw [←e0,hys]
     dsimp only
     have hin:∀s∈dz (ov p q st).boxes o.op (ys.flatMap SV.ids),s∈R:=rY.1 hsub
     have e3:dz st.boxes o.op (ys.flatMap SV.ids)=dz (ov p q st).boxes o.op (ys.flatMap SV.ids):=by
      revert hin
      unfold dz
      split
      ·intro hin
       exact ko 3 _ fun s hs=>(bT (hq s (hin s hs))).symm
      ·exact fun _=>rfl
     rw [e3,hsub]
     dsimp only
     have Pf:∀s∈R,s∈W:=fun s hs=>by rw [hW];simp [hs]
     by_cases happ:aV LF RF o.op=.app
     ·
      have hop:∃args ts,o.op=.call ⟨.builtin .append,args,ts⟩:=by
       generalize o.op=op at happ
       cases op with
       | call c=>
        obtain ⟨B3,args,ts⟩:=c
        cases B3 with
        | builtin b=>cases b<;>first|exact ⟨args,ts,rfl⟩|cases happ
        | value f=>cases f with
         | func f=>simp only [aV] at happ;split at happ<;>(try split at happ)<;>(try split at happ)<;>(try split at happ)<;>cases happ
         | _=>cases happ
        | _=>cases happ
       | _=>cases happ
      obtain ⟨args,ts,hop⟩:=hop
      have e4:aH T st.aS st.boxes o.op=aH T (ov p q st).aS (ov p q st).boxes o.op/\∀s,vR (aH T st.aS st.boxes o.op)=some s->s∈R:=by
       have e5:bD (ov p q st).aS args.toList=bD st.aS args.toList:=by rw [hop] at e0;exact e0
       have M4:bD st.aS args.toList=some ys:=by rw [hop] at hys;rw [←e5];exact hys
       have hin':∀s∈ys.flatMap SV.ids,s∈R:=by
        intro s hs
        refine hin s ?_
        rw [hop]
        simp only [dz]
        exact dA 3 _ s (br.2 hs)
       rw [hop]
       simp only [aH]
       rw [e5,M4]
       exact GZ (fun s hs=>by rw [bT (hq s (hin' s hs))]) hin'
      have hvb:pJ (aH T (ov p q st).aS (ov p q st).boxes o.op) o.dst (ov p q st) V K:=by
       unfold cf at hv
       rw [hop] at hv ⊢
       exact hv
      have hgoal:pJ (aH T st.aS st.boxes o.op) o.dst st V K'->cf P T m o st V K':=by
       intro h
       unfold cf
       rw [hop] at h ⊢
       exact h
      rw [←e4.1] at hvb
      refine hgoal ?_
      have htag:∀Q0,aH T st.aS st.boxes o.op=Q0->cz Q0=6\/Q0=.fail:=by
       intro Q0 hQ
       rw [←hQ,hop]
       exact Fk
      generalize QX:aH T st.aS st.boxes o.op=Q0 at hvb e4
      exact xg (htag Q0 QX) (fun s hs=>⟨hq s (e4.2 s hs),Pf s (e4.2 s hs)⟩) (fun k hk=>⟨hdst k hk,fun s=>by
       have:=Nn R hW k hk (some s)
       exact this⟩) (fun k hk=>Nn R hW k hk Option.none) hK hvb
     ·have hmode:=hmm happ
      refine body happ (fun xs f ss FV args ts hop hxs hf=>.inr ⟨hmode,fun s hs=>?_,Nn R hW⟩) hv
      have:s∈R:=by
       apply hin
       rw [hop] at hys ⊢
       simp only [dz]
       have hy:ys.flatMap SV.ids=(xs++qK ss).flatMap SV.ids:=by
        have:∀(l:List Operand)(xs:List SV)(x:Operand)(v:SV),bD (ov p q st).aS l=some xs->(ov p q st).aS x=some v->bD (ov p q st).aS (l++[x])=some (xs++[v]):=by
         intro l
         induction l with
         | nil=>intro xs x v h1 h2;simp only [bD,Option.some.injEq] at h1;subst h1;simp [bD,h2]
         | cons o r ih=>
          intro xs x v h1 h2
          simp only [bD] at h1
          split at h1
          ·rename_i y l' h3 h4
           cases h1
           simp only [List.cons_append,bD,h3,ih _ x v h4 h2]
          ·cases h1
        simp only [fJ] at hys
        rw [this _ _ _ _ hxs hf] at hys
        cases hys
        simp only [List.flatMap_append]
        congr 1
        simp [qK,SV.ids,C.ids,List.flatMap_map]
       rw [hy]
       exact hs
      exact ⟨hq s this,Pf s this⟩
    ·exact hv.elim
   ·exact hv.elim
  rcases hm with ⟨hc,hm⟩|⟨hc,hm⟩|⟨hc,hm⟩|hc
  ·rw [hc] at hrw
   cases h with
   | own l=>cases hrw
   | free=>exact body (by rw [hc];exact fun h=>by cases h) (fun _ _ _ _ _ _ _ _ _=>.inl hm) hv
  ·rw [hc] at hrw
   cases h with
   | free=>cases hrw
   | own l=>
    simp only [nf,Option.some.injEq,Prod.mk.injEq] at hrw
    exact own l rfl hrw.1.symm hrw.2.symm (.inl hc) (fun _=>.inl hm)
  ·rw [hc] at hrw
   cases h with
   | free=>cases hrw
   | own l=>
    simp only [nf,Option.some.injEq,Prod.mk.injEq] at hrw
    exact own l rfl hrw.1.symm hrw.2.symm (.inr (.inl hc)) (fun _=>.inr hm)
  ·rw [hc] at hrw
   cases h with
   | free=>cases hrw
   | own l=>
    simp only [nf,Option.some.injEq,Prod.mk.injEq] at hrw
    exact own l rfl hrw.1.symm hrw.2.symm (.inr (.inr hc)) (fun h=>absurd hc h)
end Go.bq
namespace Go.bq
variable {P:Program} {T:cj} {LF RF:List Nat}
def te (ops:Array Oper)(o:Oper)(st:St)(k:St->Bool->Prop):Prop:=
 match o.guard with
 | none=>k st true
 | some (j,b)=>match (ops[j]?).bind (·.dst) with
  | none=>False
  | some g=>match st.aq g with
   | some (.c .tt)=>k st b
   | some (.c .ff)=>k st (!b)
   | some (.c (.v (.bool c)))=>(c=true->k (st.put (some g) (.c .tt)) b)/\(c=false->k (st.put (some g) (.c .ff)) (!b))
   | some (.mq _)=>k st false
   | _=>False
def jN (P:Program)(T:cj)(m:CM)(h:Hint)(o:Oper)(V:View)(K:St->View->Prop)(st:St)(w:Bool):Prop:=
 match w with
 | true=>bX P T m h o st V K
 | false=>K (st.put o.dst gR) V
theorem xf {m:CM}{h:Hint}{ops:Array Oper}{o:Oper}{st:St}{V:View}{K:St->View->Prop} :
  nw P T m h ops o st V K↔te ops o st (jN P T m h o V K):=by
 unfold nw te
 cases hg:o.guard with
 | none=>rfl
 | some jb=>
  obtain ⟨j,b⟩:=jb
  dsimp only
  cases hd:(ops[j]?).bind (·.dst) with
  | none=>rfl
  | some g=>
   dsimp only
   split<;>simp_all<;>cases b<;>rfl
def gN:Nat->Option aO:=fun _=>none
structure Ma (ops:Array Oper) (o:Oper) (st:St) (k:St->Bool->Prop) (p:Nat->Option SV) (w:Bool):Prop where
 pd:∀t,t∉cS ops o->p t=none
 next:k (ov p gN st) w
 again:∀(st2:St)(k2:St->Bool->Prop),(∀t∈cS ops o,st2.aq t=st.aq t)->k2 (ov p gN st2) w->te ops o st2 k2
theorem ef {ops:Array Oper}{o:Oper}{st:St}{k:St->Bool->Prop}(h:te ops o st k):∃p w,Ma ops o st k p w:=by
 unfold te at h
 split at h
 ·rename_i hg
  exact ⟨fun _=>none,true,fun _ _=>rfl,h,fun st2 k2 _ hk=>by unfold te;rw [hg];exact hk⟩
 ·rename_i j b hg
  split at h
  ·exact h.elim
  ·rename_i g hd
   have hgt:cS ops o=[g]:=by simp only [cS,hg,hd]
   split at h
   ·rename_i hs
    exact ⟨fun _=>none,b,fun _ _=>rfl,h,fun st2 k2 ha hk=>by unfold te;simp only [hg,hd,ha g (by simp [hgt]),hs];exact hk⟩
   ·rename_i hs
    exact ⟨fun _=>none,!b,fun _ _=>rfl,h,fun st2 k2 ha hk=>by unfold te;simp only [hg,hd,ha g (by simp [hgt]),hs];exact hk⟩
   ·rename_i c hs
    cases c with
    | true=>
     refine ⟨one (some g) (.c .tt),b,fun t ht=>cN (by intro e;apply ht;rw [hgt];simpa using e.symm),?_,fun st2 k2 ha hk=>?_⟩
     ·have:=h.1 rfl;rw [dH] at this;exact this
     ·unfold te;simp only [hg,hd,ha g (by simp [hgt]),hs]
      exact ⟨fun _=>by rw [dH];exact hk,fun e=>by cases e⟩
    | false=>
     refine ⟨one (some g) (.c .ff),!b,fun t ht=>cN (by intro e;apply ht;rw [hgt];simpa using e.symm),?_,fun st2 k2 ha hk=>?_⟩
     ·have:=h.2 rfl;rw [dH] at this;exact this
     ·unfold te;simp only [hg,hd,ha g (by simp [hgt]),hs]
      exact ⟨fun e=>(by cases e),fun _=>by rw [dH];exact hk⟩
   ·rename_i xs hs
    exact ⟨fun _=>none,false,fun _ _=>rfl,h,fun st2 k2 ha hk=>by unfold te;simp only [hg,hd,ha g (by simp [hgt]),hs];exact hk⟩
   ·exact h.elim
theorem kA {ops:Array Oper}{o:Oper}{st:St}{k k':St->Bool->Prop}(hk:∀s w,k s w->k' s w)(h:te ops o st k):te ops o st k':=by
 obtain ⟨p,w,hO⟩:=ef h
 exact hO.again st k' (fun _ _=>rfl) (hk _ _ hO.next)
theorem put_comm {st:St}{d d':Option Nat}{x y:SV}(h:∀k,d=some k->d'≠some k):(st.put d x).put d' y=(st.put d' y).put d x:=by
 cases d with
 | none=>rfl
 | some d=>
  cases d' with
  | none=>rfl
  | some d'=>
   have hne:d≠d':=fun e=>h d rfl (by rw [e])
   simp only [St.put]
   congr 1
   funext t
   by_cases e:t=d
   ·subst e;simp [Nat.beq_refl,cG hne]
   ·simp [cG e]
theorem AY {ops:Array Oper}{o1 o2:Oper}{st:St}{F:St->Bool->Bool->Prop}(h:te ops o1 st fun s w1=>te ops o2 s fun s' w2=>F s' w1 w2) :
  te ops o2 st fun s w2=>te ops o1 s fun s' w1=>F s' w1 w2:=by
 by_cases hsh:∃g,cS ops o1=[g]/\cS ops o2=[g]
 ·obtain ⟨g,e1,e2⟩:=hsh
  unfold cS at e1 e2
  split at e1
  ·cases e1
  ·rename_i j1 b1 hg1
   split at e1
   ·rename_i g1 hd1
    cases e1
    split at e2
    ·cases e2
    ·rename_i j2 b2 hg2
     split at e2
     ·rename_i g2 hd2
      cases e2
      unfold te at h ⊢
      simp only [hg1,hg2,hd1,hd2] at h ⊢
      split at h
      ·rename_i hs;exact h
      ·rename_i hs;exact h
      ·rename_i c hs
       simp only [cD,if_true] at h ⊢
       exact h
      ·rename_i xs hs;exact h
      ·exact h.elim
     ·cases e2
   ·cases e1
 ·obtain ⟨p1,w1,h1⟩:=ef h
  obtain ⟨p2,w2,h2⟩:=ef h1.next
  have Ks:∀o:Oper,cS ops o=[]\/∃g,cS ops o=[g]:=by
   intro o;unfold cS
   split
   ·exact .inl rfl
   ·split
    ·exact .inr ⟨_,rfl⟩
    ·exact .inl rfl
  have hdj:∀t,t∈cS ops o1->t∉cS ops o2:=by
   intro t ht1 ht2
   rcases Ks o1 with e1|⟨g1,e1⟩
   ·rw [e1] at ht1;cases ht1
   ·rcases Ks o2 with e2|⟨g2,e2⟩
    ·rw [e2] at ht2;cases ht2
    ·rw [e1] at ht1;rw [e2] at ht2
     simp at ht1 ht2
     exact hsh ⟨t,by rw [e1,ht1],by rw [e2,ht2]⟩
  refine h2.again st _ (fun t ht=>?_) (h1.again _ _ (fun t ht=>?_) ?_)
  ·show st.aq t=(ov p1 gN st).aq t
   simp [ov,h1.pd t (fun h=>hdj t h ht)]
  ·show (ov p2 gN st).aq t=st.aq t
   simp [ov,h2.pd t (hdj t ht)]
  ·have e:ov p1 gN (ov p2 gN st)=ov p2 gN (ov p1 gN st):=wL (fun t=>by
    by_cases ht:t∈cS ops o1
    ·exact .inr (h2.pd t (hdj t ht))
    ·exact .inl (h1.pd t ht)) (fun _=>.inl rfl)
   show F (ov p1 gN (ov p2 gN st)) w1 w2
   rw [e]
   exact h2.next
theorem fS {o:Oper}{k:Nat}(h:o.dst=some k):k∈dg o:=by simp [dg,h]
theorem GS {ops:Array Oper}{m1 m2:CM}{h1 h2:Hint}{o1 o2:Oper}{st:St}{V:View}{K:St->View->Prop}
  (hi:indep LF RF ops h1 h2 o1 o2=true)
  (hm:kn (aV LF RF o2.op)=true\/(aV LF RF o2.op=.call/\m2=.none)\/((aV LF RF o2.op=.iS/\m2=.bW)\/(aV LF RF o2.op=.give/\m2=.give)\/aV LF RF o2.op=.app))
  (hv:nw P T m1 h1 ops o1 st V fun st1 V1=>nw P T m2 h2 ops o2 st1 V1 K) :
  nw P T m2 h2 ops o2 st V fun st2 V2=>nw P T m1 h1 ops o1 st2 V2 K:=by
 unfold indep at hi
 simp only [Bool.and_eq_true] at hi
 obtain ⟨⟨⟨⟨⟨hq1,hd1⟩,hd2⟩,hg1⟩,hg2⟩,hrw⟩:=hi
 split at hrw
 ·rename_i R1 W1 R2 W2 hr1 hr2
  simp only [Bool.and_eq_true] at hrw
  obtain ⟨⟨Kg,Kh⟩,Pp⟩:=hrw
  rw [yA] at hd1 hd2 hg1 hg2 Kg Kh Pp
  have MH:∀k,o2.dst=some k->o1.dst≠some k:=fun k hk hk'=>hd1 k (fS hk') (by simp [fS hk])
  simp only [xf] at hv ⊢
  have sa:te ops o1 st fun s w1=>te ops o2 s fun s' w2=>jN P T m1 h1 o1 V (fun s'' dK=>jN P T m2 h2 o2 dK K s'' w2) s' w1:=by
   refine kA (fun s w1 hb=>?_) hv
   cases w1 with
   | true=>
    obtain ⟨p,q,hO⟩:=kS hq1 hr1 hb
    obtain ⟨p2,w2,hG⟩:=ef hO.next
    refine hG.again s _ (fun t ht=>?_) ?_
    ·show s.aq t=(ov p q s).aq t
     simp [ov,hO.pd t (fun h=>hd1 t h (by simp [ht]))]
    ·refine hO.again _ V _ (View.Le.refl V) (fun t ht=>?_) (fun _ _=>rfl) ?_
     ·show (ov p2 gN s).aq t=s.aq t
      simp [ov,hG.pd t (fun h=>hg2 t h ht)]
     ·rw [wL (q2:=gN) _ (fun _=>.inr rfl)]
      ·exact hG.next
      ·intro t
       by_cases ht:t∈cS ops o2
       ·exact .inl (hO.pd t (fun h=>hd1 t h (by simp [ht])))
       ·exact .inr (hG.pd t ht)
   | false=>
    simp only [jN] at hb
    obtain ⟨p2,w2,hG⟩:=ef hb
    have hp:∀k,o1.dst=some k->p2 k=none:=fun k hk=>hG.pd k (fun h=>hd1 k (fS hk) (by simp [h]))
    refine hG.again s _ (fun t ht=>?_) ?_
    ·rw [dH]
     simp [ov,cN (d:=o1.dst) (x:=gR) (t:=t) (fun h=>hd1 t (fS h) (by simp [ht]))]
    ·show jN P T m2 h2 o2 V K ((ov p2 gN s).put o1.dst gR) w2
     rw [iB hp]
     exact hG.next
  have sb:=AY sa
  have sc:te ops o2 st fun s w2=>te ops o1 s fun s' w1=>jN P T m2 h2 o2 V (fun s'' dK=>jN P T m1 h1 o1 dK K s'' w1) s' w2:=by
   refine kA (fun s w2 hb=>kA (fun s' w1 hb=>?_) hb) sb
   cases w1 with
   | true=>
    obtain ⟨p,q,hO⟩:=kS hq1 hr1 hb
    cases w2 with
    | true=>
     refine nM hm hr2 (fun t ht=>hO.pd t (fun h=>hd1 t h (by rcases ht with ht|ht<;>simp [ht]))) (fun s hs=>hO.qd s (fun h=>Kg s h hs)) (fun s hs=>hO.qd s (fun h=>Pp s h hs)) (fun s2 V2 hG=>?_) hO.next
     obtain ⟨g1,g2,g3,g4⟩:=hG
     exact hO.again s2 V2 K g1 (fun t ht=>g2 t (fun h=>hd2 t h (by simp [ht]))) (fun s hs=>g3 s (fun h=>Kh s h hs)) g4
    | false=>
     refine hO.again _ V K (View.Le.refl V) (fun t ht=>?_) (fun s _=>by cases o2.dst<;>rfl) ?_
     ·rw [dH]
      simp [ov,cN (d:=o2.dst) (x:=gR) (t:=t) (fun h=>hd2 t (fS h) (by simp [ht]))]
     ·have:=hO.next
      simp only [jN] at this
      rw [iB (fun k hk=>hO.pd k (fun h=>hd1 k h (by simp [fS hk])))] at this
      exact this
   | false=>
    cases w2 with
    | true=>
     simp only [jN] at hb ⊢
     rw [dH] at hb
     refine nM hm hr2 (fun t ht=>cN (fun e=>hd1 t (fS e) (by rcases ht with ht|ht<;>simp [ht]))) (fun s hs=>rfl) (fun s hs=>rfl) (fun s2 V2 hG=>?_) hb
     have:=hG.2.2.2
     rw [←dH] at this
     exact this
    | false=>
     simp only [jN] at hb ⊢
     rw [put_comm MH]
     exact hb
  refine kA (fun s w2 hb=>?_) sc
  cases w2 with
  | true=>
   simp only [jN] at hb ⊢
   obtain ⟨p,w1,hG⟩:=ef hb
   refine nM hm hr2 (fun t ht=>hG.pd t (fun h=>?_)) (fun _ _=>rfl) (fun _ _=>rfl) (fun s2 V2 QT=>?_) hG.next
   ·rcases ht with ht|ht
    ·exact hg1 t h ht
    ·exact hd2 t ht (by simp [h])
   ·obtain ⟨g1,g2,g3,g4⟩:=QT
    exact hG.again s2 _ (fun t ht=>g2 t (fun h=>hd2 t h (by simp [ht]))) g4
  | false=>
   simp only [jN] at hb ⊢
   obtain ⟨p,w1,hG⟩:=ef hb
   refine hG.again _ _ (fun t ht=>?_) ?_
   ·rw [dH]
    simp [ov,cN (d:=o2.dst) (x:=gR) (t:=t) (fun h=>hd2 t (fS h) (by simp [ht]))]
   ·have:=hG.next
    rw [iB (fun k hk=>hG.pd k (fun h=>hd2 k (fS hk) (by simp [h])))] at this
    exact this
 ·cases hrw
end Go.bq
