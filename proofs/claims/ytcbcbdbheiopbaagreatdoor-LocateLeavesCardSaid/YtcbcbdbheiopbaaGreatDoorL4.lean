/- A part of the proof (joined by program from: Eng12, Eng13, Eng14, Eng15). -/
import Derived.Test.YtcbcbdbheiopbaaGreatDoorL3
set_option linter.unusedVariables false
open Go.IntKind (i64 u64 u32)
/- The symbolic executor is sound, part eleven: one operation with its guard; operations in a given order. -/
namespace Go.Eng
variable {P:Program} {T:Tab} {n:Nat} {V0:View} {bor:Bor} {β0:Nat->Nat} {st:St} {β:Nat->Nat} {a:Act} {w:World} {V:View}
theorem method_run {t:TypeId} {name:String} {f:FuncId} (h:methOf P t name=some f) (k:Nat) (v:Value) (w:World):(Go.method (k + 1) t v name).run P w=.ok (f,v) w:=by
 unfold methOf at h
 split at h
 ·rename_i i d h1 h2
  split at h
  ·rename_i m hm
   split at h
   ·rename_i f' fs hp hf
    cases h
    have hp':m.path=#[]:=by apply Array.ext'; exact hp
    simp only [Go.method,typeInfo,Sem.run_bind,run_program,Result.andThen_ok,h1,hm,Sem.run_pure,hp',follow,hf,receiverAt,run_underlying' h2,Place.get]
   ·cases h
  ·cases h
 ·cases h
theorem body_sound' (hT:Tab.ok P T) (hM:Mod n V0 bor β0 st β a w V) {m:CM} {o:Oper} {K:St->View->Prop} {next:Act->World->Prop} {Q:Exit->Act->World->Prop}
  (hd:∀d,o.dst=some d->d < n) (hv:vcBody' P T m o st V K)
  (hK:∀st' β' a' w' V',Mod n V0 bor β0 st' β' a' w' V'->K st' V'->next a' w'):o.wp P a w next Q:=by
 unfold vcBody' at hv
 split at hv
 ·rename_i fop args ts hop
  split at hv
  ·rename_i xs hxs
   obtain ⟨h1,h2⟩:=operL_run hM _ _ hxs
   split at hv
   ·rename_i f ss hf
    obtain ⟨hc,hcalls⟩:=call_sound (Q:=Q) hM hd hv hK
    have e1:args.map a.eval=(xs.map (SV.den β)).toArray:=by apply Array.ext'; rw [Array.toList_map]; exact h1
    have e2:denArgs β (xs++clAll ss)=(xs.map (SV.den β)).toArray++(ss.map fun s=>Value.pointer (some ⟨β s,0,none⟩)).toArray:=by
     unfold denArgs clAll
     rw [List.map_append,List.map_map]
     apply Array.ext'
     simp [Function.comp_def,SV.den,C.den]
    have hrun:(execOp a.eval o).run P w=.ok (.enter f (denArgs β (xs++clAll ss))) w:=by
     rw [e2]
     simp only [execOp,hop,resolve,hM.eval hf,SV.den,C.den,Deferred.ofValue,pure_bind,invoke,e1,Array.empty_append]
     exact hc.run _
    unfold Oper.wp
    rw [hrun]
    exact hcalls
   ·exact hv.elim
  ·exact hv.elim
 ·rename_i recv name args ts hop
  split at hv
  ·rename_i xs hxs
   obtain ⟨h1,h2⟩:=operL_run hM _ _ hxs
   split at hv
   ·rename_i t v hf
    split at hv
    ·rename_i f hmeth
     obtain ⟨hc,hcalls⟩:=call_sound (Q:=Q) hM hd hv hK
     have e1:args.map a.eval=(xs.map (SV.den β)).toArray:=by apply Array.ext'; rw [Array.toList_map]; exact h1
     have e2:denArgs β (.c (.w v) :: xs)=#[v]++(xs.map (SV.den β)).toArray:=by
      unfold denArgs
      apply Array.ext'
      simp [SV.den,C.den]
     have hrun:(execOp a.eval o).run P w=.ok (.enter f (denArgs β (.c (.w v) :: xs))) w:=by
      rw [e2]
      have e3:(#[Value.iface t v]++(xs.map (SV.den β)).toArray).extract 1 (#[Value.iface t v]++(xs.map (SV.den β)).toArray).size=(xs.map (SV.den β)).toArray:=by
       apply Array.ext'
       simp
       exact List.take_of_length_le (by simp)
      have e4:(#[Value.iface t v]++(xs.map (SV.den β)).toArray)[0]?=some (Value.iface t v):=by simp
      simp only [execOp,hop,resolve,hM.eval hf,SV.den,C.den,pure_bind,invoke,e1,e4,e3,callMethod,Sem.run_bind,run_program,Result.andThen_ok,Made.depth]
      rw [method_run hmeth]
      exact hc.run _
     unfold Oper.wp
     rw [hrun]
     exact hcalls
    ·exact hv.elim
   ·exact hv.elim
  ·exact hv.elim
 ·exact quiet_sound hT hM hd hv hK
theorem body_sound (hT:Tab.ok P T) (hM:Mod n V0 bor β0 st β a w V) {m:CM} {h:Hint} {o:Oper} {K:St->View->Prop} {next:Act->World->Prop} {Q:Exit->Act->World->Prop}
  (hd:∀d,o.dst=some d->d < n) (hv:vcBody P T m h o st V K)
  (hK:∀st' β' a' w' V',Mod n V0 bor β0 st' β' a' w' V'->K st' V'->next a' w'):o.wp P a w next Q:=by
 unfold vcBody at hv
 split at hv
 ·exact body_sound' hT hM hd hv hK
 ·split at hv
  ·split at hv
   ·exact body_sound' hT hM hd hv hK
   ·exact hv.elim
  ·exact hv.elim
/-- What is known of a slot is said otherwise. -/
theorem Mod.refine (hM:Mod n V0 bor β0 st β a w V) {g:Nat} {x y:SV} (hx:st.slots g=some x) (he:x.den β=y.den β) (hy:y.ids=[]):Mod n V0 bor β0 (st.put (some g) y) β a w V:=by
 refine ⟨hM.defers,hM.size,?_,?_,hM.wfB,hM.boxes,hM.inj,hM.vis,hM.hid,hM.ext,hM.own,hM.borB,hM.borX,hM.small⟩
 ·intro t z hz
  rw [put_slots] at hz
  split at hz
  ·rename_i e; simp only [Option.some.injEq] at hz; rw [e,← hz,← he]; exact hM.slots g x hx
  ·exact hM.slots t z hz
 ·intro t z hz
  rw [put_slots] at hz
  split at hz
  ·simp only [Option.some.injEq] at hz; rw [← hz,hy]; exact fun s hs=>(nomatch hs)
  ·exact hM.wfS t z hz
theorem yielded_of {ops:Array Oper} {tmps:Array Value} {j g:Nat} (hg:(ops[j]?).bind (·.dst)=some g):yielded ops tmps j=match tmps.getD g undef with | .bool b=>some b | _=>none:=by
 unfold yielded
 rw [hg]
 simp only [Option.bind_some]
 by_cases h:g < tmps.size
 ·have h1:tmps[g]?=some tmps[g]:=getElem?_pos tmps g h
  have h2:tmps.getD g undef=tmps[g]:=by simp [h]
  rw [h1,h2]
  generalize tmps[g]=v
  cases v <;> rfl
 ·simp [h,undef]
theorem op_sound (hT:Tab.ok P T) (hM:Mod n V0 bor β0 st β a w V) {m:CM} {h:Hint} {ops:Array Oper} {o:Oper} {K:St->View->Prop} {next:Act->World->Prop} {Q:Exit->Act->World->Prop}
  (hd:∀d,o.dst=some d->d < n) (hv:vcOp P T m h ops o st V K)
  (hK:∀st' β' a' w' V',Mod n V0 bor β0 st' β' a' w' V'->K st' V'->next a' w') :
  if Region.wanted o (yielded ops a.tmps) then o.wp P a w next Q else next (a.put o.dst undef) w:=by
 unfold vcOp at hv
 split at hv
 ·rename_i hg
  rw [if_pos (by simp [Region.wanted,hg])]
  exact body_sound hT hM hd hv hK
 ·rename_i j b hg
  split at hv
  ·exact hv.elim
  ·rename_i g hdst
   have hy:=yielded_of (tmps:=a.tmps) hdst
   have hwant:∀c:Bool,a.tmps.getD g undef=.bool c->(Region.wanted o (yielded ops a.tmps)=true↔c=b):=by
    intro c hc
    simp only [Region.wanted,hg]
    rw [hy,hc]
    simp
   have skip:∀{st2:St},Mod n V0 bor β0 st2 β a w V->K (st2.put o.dst undefS) V->next (a.put o.dst undef) w:=by
    intro st2 hM2 hK2
    exact hK _ _ _ _ _ (hM2.putO hd rfl (live_nil rfl)) hK2
   split at hv
   ·rename_i hs
    have hval:=hM.slots g _ hs
    split at hv
    ·rw [if_pos ((hwant true hval).2 rfl)]; exact body_sound hT hM hd hv hK
    ·rw [if_neg (fun h=>by have:=(hwant true hval).1 h; cases this)]; exact skip hM hv
   ·rename_i hs
    have hval:=hM.slots g _ hs
    split at hv
    ·rw [if_neg (fun h=>by have:=(hwant false hval).1 h; cases this)]; exact skip hM hv
    ·rw [if_pos ((hwant false hval).2 rfl)]; exact body_sound hT hM hd hv hK
   ·rename_i c hs
    have hval:=hM.slots g _ hs
    have ht:c=true->Mod n V0 bor β0 (st.put (some g) (.c .tt)) β a w V:=fun e=>hM.refine hs (by rw [e]; rfl) rfl
    have hf:c=false->Mod n V0 bor β0 (st.put (some g) (.c .ff)) β a w V:=fun e=>hM.refine hs (by rw [e]; rfl) rfl
    split at hv
    ·cases c with
     | true=>rw [if_pos ((hwant true hval).2 rfl)]; exact body_sound hT (ht rfl) hd (hv.1 rfl) hK
     | false=>rw [if_neg (fun h=>by have:=(hwant false hval).1 h; cases this)]; exact skip (hf rfl) (hv.2 rfl)
    ·cases c with
     | true=>rw [if_neg (fun h=>by have:=(hwant true hval).1 h; cases this)]; exact skip (ht rfl) (hv.1 rfl)
     | false=>rw [if_pos ((hwant false hval).2 rfl)]; exact body_sound hT (hf rfl) hd (hv.2 rfl) hK
   ·rename_i xs hs
    have hval:=hM.slots g _ hs
    have:Region.wanted o (yielded ops a.tmps)=false:=by
     simp only [Region.wanted,hg]
     rw [hy,hval]
     simp [SV.den]
    rw [if_neg (by rw [this]; simp)]
    exact skip hM hv
   ·exact hv.elim
theorem ops_sound (hT:Tab.ok P T) {m:Nat->CM} {hint:Nat->Hint} {ops:Array Oper} (hd:∀(i:Nat) (o:Oper),ops[i]?=some o->∀d,o.dst=some d->d < n) {Q:Exit->Act->World->Prop} {K:St->View->Prop}
  (hK:∀st' β' a' w' V',Mod n V0 bor β0 st' β' a' w' V'->K st' V'->Q .normal a' w') :
  ∀(l:List Nat) (st:St) (β:Nat->Nat) (a:Act) (w:World) (V:View),Mod n V0 bor β0 st β a w V->vcL P T m hint ops l st V K->wpOps P ops Q l a w
 | [],st,β,a,w,V,hM,hv=>hK _ _ _ _ _ hM hv
 | i :: r,st,β,a,w,V,hM,hv=>by
  simp only [vcL] at hv
  simp only [wpOps]
  split at hv
  ·rename_i o ho
   rw [ho]
   dsimp only
   have:=op_sound (Q:=Q) (next:=wpOps P ops Q r) hT hM (hd i o ho) hv (fun st' β' a' w' V' hM' hv'=>ops_sound hT hd hK r st' β' a' w' V' hM' hv')
   split at this
   ·rename_i hw; rw [if_pos hw]; exact .inl this
   ·rename_i hw; rw [if_neg hw]; exact this
  ·exact hv.elim
end Go.Eng
/- Any order, part one: what an operation looks at; a change elsewhere does not matter to it. -/
namespace Go.Eng
def ov (p:Nat->Option SV) (q:Nat->Option Box) (st:St):St:=
 ⟨fun t=>match p t with | some x=>some x | none=>st.slots t,fun t=>match q t with | some x=>some x | none=>st.boxes t⟩
theorem beq_ne {a b:Nat} (h:a≠b):Nat.beq a b=false:=by
 cases hb:Nat.beq a b
 ·rfl
 ·exact absurd (beq_eq.1 hb) h
section
variable {p:Nat->Option SV} {q:Nat->Option Box} {st:St}
theorem ov_put {d:Option Nat} {x:SV} (h:∀k,d=some k->p k=none):(ov p q st).put d x=ov p q (st.put d x):=by
 cases d with
 | none=>rfl
 | some d=>
  have hd:=h d rfl
  simp only [ov,St.put]
  congr 1
  funext t
  by_cases e:t=d
  ·subst e; simp [hd,Nat.beq_refl]
  ·simp [beq_ne e]
theorem ov_box {s:Nat} {b:Box} (h:q s=none):(ov p q st).box s b=ov p q (st.box s b):=by
 simp only [ov,St.box]
 congr 1
 funext t
 by_cases e:t=s
 ·subst e; simp [h,Nat.beq_refl]
 ·simp [beq_ne e]
theorem ov_boxes {s:Nat} (h:q s=none):(ov p q st).boxes s=st.boxes s:=by simp [ov,h]
theorem ov_opnd {x:Operand} (h:∀t,x=.tmp t->p t=none):(ov p q st).opnd x=st.opnd x:=by
 cases x with
 | tmp t=>simp [St.opnd,ov,h t rfl]
 | _=>rfl
def one {α:Type} (d:Option Nat) (x:α):Nat->Option α:=fun t=>match d with | some k=>cond (Nat.beq t k) (some x) none | none=>none
theorem one_none {α:Type} {d:Option Nat} {x:α} {t:Nat} (h:d≠some t):one d x t=none:=by
 cases d with
 | none=>rfl
 | some k=>simp [one,beq_ne (fun e:t=k=>h (by rw [e]))]
theorem put_ov (d:Option Nat) (x:SV):st.put d x=ov (one d x) (fun _=>none) st:=by
 cases d with
 | none=>rfl
 | some d=>
  simp only [ov,St.put,one]
  congr 1
  funext t
  by_cases e:t=d
  ·subst e; simp [Nat.beq_refl]
  ·simp [beq_ne e]
theorem box_ov (s:Nat) (b:Box):st.box s b=ov (fun _=>none) (one (some s) b) st:=by
 simp only [ov,St.box,one]
 congr 1
 funext t
 by_cases e:t=s
 ·subst e; simp [Nat.beq_refl]
 ·simp [beq_ne e]
theorem boxput_ov (s:Nat) (b:Box) (d:Option Nat) (x:SV):(st.box s b).put d x=ov (one d x) (one (some s) b) st:=by
 rw [put_ov,box_ov]; rfl
end
/-! operands -/
theorem operL_congr {ρ ρ':Operand->Option SV}:∀l:List Operand,(∀x ∈ l,ρ x=ρ' x)->operL ρ l=operL ρ' l
 | [],_=>rfl
 | o :: r,h=>by simp only [operL]; rw [h o (by simp),operL_congr r fun x hx=>h x (by simp [hx])]
theorem partsOf_congr {ρ ρ':Operand->Option SV}:∀l:List (Nat × Operand),(∀x ∈ l.map (·.2),ρ x=ρ' x)->partsOf ρ l=partsOf ρ' l
 | [],_=>rfl
 | (i,o) :: r,h=>by simp only [partsOf]; rw [h o (by simp),partsOf_congr r fun x hx=>h x (by simp only [List.map_cons,List.mem_cons]; exact .inr hx)]
theorem optO_congr {ρ ρ':Operand->Option SV}:∀l:Option Operand,(∀x,l=some x->ρ x=ρ' x)->optO ρ l=optO ρ' l
 | none,_=>rfl
 | some o,h=>by simp only [optO]; rw [h o rfl]
theorem qeval_congr {T:Tab} {ρ ρ':Operand->Option SV} {bx:Nat->Option Box} {op:Op} (h:∀x ∈ op.operands.toList,ρ x=ρ' x):qeval T ρ bx op=qeval T ρ' bx op:=by
 cases op with
 | move x=>simp only [qeval]; rw [h x (by simp [Op.operands])]
 | assign x=>simp only [qeval]; rw [h x (by simp [Op.operands])]
 | pick c a b=>simp only [qeval]; rw [h c (by simp [Op.operands]),h a (by simp [Op.operands]),h b (by simp [Op.operands])]
 | box t x=>simp only [qeval]; rw [h x (by simp [Op.operands])]
 | build t ps=>simp only [qeval]; rw [partsOf_congr _ fun x hx=>h x (by simpa [Op.operands] using hx)]
 | buildSlice t n ps=>simp only [qeval]; rw [partsOf_congr _ fun x hx=>h x (by simpa [Op.operands] using hx)]
 | load t a=>simp only [qeval]; rw [h a (by simp [Op.operands])]
 | store t a x=>simp only [qeval]; rw [h a (by simp [Op.operands]),h x (by simp [Op.operands])]
 | nilCheck x=>simp only [qeval]; rw [h x (by simp [Op.operands])]
 | binOp o xt x y yt=>simp only [qeval]; rw [h x (by simp [Op.operands]),h y (by simp [Op.operands])]
 | unOp o xt x=>cases o <;> simp only [qeval] <;> rw [h x (by simp [Op.operands])]
 | convert s d x=>simp only [qeval]; rw [h x (by simp [Op.operands])]
 | makeFunc fn first caps=>
  cases fn with
  | func f=>simp only [qeval]; rw [operL_congr _ fun x hx=>h x (by simp [Op.operands]; exact .inr (by simpa using hx))]
  | _=>rfl
 | makeSlice t a b=>simp only [qeval]; rw [h a (by simp [Op.operands]),h b (by simp [Op.operands])]
 | slice t x lo hi mx=>
  simp only [qeval]
  rw [h x (by simp [Op.operands]),optO_congr lo fun y hy=>h y (by simp [Op.operands,hy]),optO_congr hi fun y hy=>h y (by simp [Op.operands,hy]),optO_congr mx fun y hy=>h y (by simp [Op.operands,hy])]
 | fieldAddr t x f=>simp only [qeval]; rw [h x (by simp [Op.operands])]
 | field t x f=>simp only [qeval]; rw [h x (by simp [Op.operands])]
 | indexAddr t x i=>simp only [qeval]; rw [h x (by simp [Op.operands]),h i (by simp [Op.operands])]
 | extract x j=>simp only [qeval]; rw [h x (by simp [Op.operands])]
 | index t x i=>simp only [qeval]; rw [h x (by simp [Op.operands]),h i (by simp [Op.operands])]
 | makeInterface t x=>simp only [qeval]; rw [h x (by simp [Op.operands])]
 | call c=>
  obtain ⟨cal,args,ts⟩:=c
  cases cal with
  | builtin b=>
   have e:operL ρ args.toList=operL ρ' args.toList:=operL_congr _ fun x hx=>h x (by simpa [Op.operands,Call.operands] using hx)
   cases b <;> simp only [qeval] <;> rw [e]
  | _=>rfl
 | _=>rfl
theorem qeval_bx {T:Tab} {LF RF:List Nat} {ρ:Operand->Option SV} {bx bx':Nat->Option Box} {op:Op} (h:clsOf LF RF op=.pure \/ clsOf LF RF op=.alloc):qeval T ρ bx op=qeval T ρ bx' op:=by
 cases op with
 | load t a=>rcases h with h | h <;> cases h
 | store t a x=>rcases h with h | h <;> cases h
 | unOp o xt x=>cases o <;> rfl
 | makeFunc fn first caps=>cases fn <;> rfl
 | call c=>
  obtain ⟨cal,args,ts⟩:=c
  cases cal with
  | builtin b=>cases b <;> first | rfl | (rcases h with h | h <;> cases h)
  | _=>rfl
 | _=>rfl
theorem qload_bx {bx bx':Nat->Option Box} {i:TI} {x:SV} (h:∀s ∈ x.ids,bx' s=bx s):qLoad bx i x=qLoad bx' i x:=by
 unfold qLoad
 split
 ·rename_i b o
  rw [h b (by simp [SV.ids,C.ids])]
 ·rfl
 ·rfl
theorem qstore_bx {bx bx':Nat->Option Box} {i:TI} {x y:SV} (h:∀s ∈ x.ids,bx' s=bx s):qStore bx i x y=qStore bx' i x y:=by
 unfold qStore
 split
 ·rename_i b o
  rw [h b (by simp [SV.ids,C.ids])]
 ·rfl
theorem qstore_upd {bx:Nat->Option Box} {i:TI} {x y:SV} {sc:List Prop} {s:Nat} {b:Box} (h:qStore bx i x y=.upd sc s b):s ∈ x.ids:=by
 unfold qStore at h
 split at h
 ·split at h
  ·split at h
   ·split at h
    ·cases h; simp [SV.ids,C.ids]
    ·cases h
   ·split at h
    ·cases h; simp [SV.ids,C.ids]
    ·cases h
   ·split at h
    ·cases h
    ·split at h
     ·cases h; simp [SV.ids,C.ids]
     ·cases h
   ·cases h
  ·cases h
 ·cases h
/-! views and shapes -/
theorem rds_and {V:View} {p:Addr}:∀(cs:List C) (i:Nat) {k:Prop},V.rds p i cs k↔V.rds p i cs True/\k
 | [],_,k=>by simp [View.rds]
 | c :: r,i,k=>by
  simp only [View.rds]
  rw [rds_and r (i + 1),and_assoc]
theorem rds_le {V V':View} (h:V.Le V') {p:Addr}:∀(cs:List C) (i:Nat) {k:Prop},V.rds p i cs k->V'.rds p i cs k
 | [],_,_,hk=>hk
 | c :: r,i,_,hk=>⟨h.at hk.1,rds_le h r (i + 1) hk.2⟩
theorem rdV_and {V:View} {p:OA} {x:SV} {k:Prop}:V.rdV p x k↔V.rdV p x True/\k:=by
 cases x with
 | c c=>simp [View.rdV]
 | agg cs=>
  simp only [View.rdV]
  constructor
  ·rintro ⟨a,h1,h2⟩; rw [rds_and] at h2; exact ⟨⟨a,h1,h2.1⟩,h2.2⟩
  ·rintro ⟨⟨a,h1,h2⟩,hk⟩; exact ⟨a,h1,by rw [rds_and]; exact ⟨h2,hk⟩⟩
 | tup xs=>simp [View.rdV]
theorem rdV_le {V V':View} (h:V.Le V') {p:OA} {x:SV} {k:Prop} (hk:V.rdV p x k):V'.rdV p x k:=by
 cases x with
 | c c=>obtain ⟨⟨a,h1,h2⟩,h3⟩:=hk; exact ⟨⟨a,h1,h.at h2⟩,h3⟩
 | agg cs=>obtain ⟨a,h1,h2⟩:=hk; exact ⟨a,h1,rds_le h _ _ h2⟩
 | tup xs=>exact hk
theorem Sh1.split:∀(s:Sh1) {F:C->Prop},s.ex F->∃x,F x/\∀G:C->Prop,G x->s.ex G
 | .int _,_,⟨_,h⟩=>⟨_,h,fun _ g=>⟨_,g⟩⟩
 | .bool,_,⟨_,h⟩=>⟨_,h,fun _ g=>⟨_,g⟩⟩
 | .slice,_,⟨_,_,_,h⟩=>⟨_,h,fun _ g=>⟨_,_,_,g⟩⟩
 | .ptr,_,⟨_,h⟩=>⟨_,h,fun _ g=>⟨_,g⟩⟩
 | .str,_,⟨_,h⟩=>⟨_,h,fun _ g=>⟨_,g⟩⟩
 | .any,_,⟨_,h⟩=>⟨_,h,fun _ g=>⟨_,g⟩⟩
theorem exL_split:∀(l:List Sh1) {F:List C->Prop},exL l F->∃x,F x/\∀G:List C->Prop,G x->exL l G
 | [],_,h=>⟨_,h,fun _ g=>g⟩
 | s :: r,_,h=>by
  obtain ⟨c,h1,h2⟩:=Sh1.split s h
  obtain ⟨cs,h3,h4⟩:=exL_split r h1
  exact ⟨c :: cs,h3,fun G g=>h2 _ (h4 _ g)⟩
theorem ShV.split:∀(s:ShV) {F:SV->Prop},s.ex F->∃x,F x/\∀G:SV->Prop,G x->s.ex G
 | .one s,_,h=>by obtain ⟨c,h1,h2⟩:=Sh1.split s h; exact ⟨.c c,h1,fun G g=>h2 _ g⟩
 | .agg l,_,h=>by obtain ⟨c,h1,h2⟩:=exL_split l h; exact ⟨.agg c,h1,fun G g=>h2 _ g⟩
theorem exT_split:∀(l:List ShV) {F:List (Bool × List C)->Prop},exT l F->∃x,F x/\∀G:List (Bool × List C)->Prop,G x->exT l G
 | [],_,h=>⟨_,h,fun _ g=>g⟩
 | .one s :: r,_,h=>by
  obtain ⟨c,h1,h2⟩:=Sh1.split s h
  obtain ⟨cs,h3,h4⟩:=exT_split r h1
  exact ⟨_,h3,fun G g=>h2 _ (h4 _ g)⟩
 | .agg l :: r,_,h=>by
  obtain ⟨c,h1,h2⟩:=exL_split l h
  obtain ⟨cs,h3,h4⟩:=exT_split r h1
  exact ⟨_,h3,fun G g=>h2 _ (h4 _ g)⟩
theorem Sh.split:∀(s:Sh) {F:SV->Prop},s.ex F->∃x,F x/\∀G:SV->Prop,G x->s.ex G
 | .val s,_,h=>ShV.split s h
 | .tup l,_,h=>by obtain ⟨x,h1,h2⟩:=exT_split l h; exact ⟨_,h1,fun G g=>h2 _ g⟩
 | .none,_,h=>⟨_,h,fun _ g=>g⟩
theorem Sh.mono {s:Sh} {F G:SV->Prop} (h:s.ex F) (k:∀x,F x->G x):s.ex G:=by
 obtain ⟨x,h1,h2⟩:=s.split h
 exact h2 G (k x h1)
/-! the outcome of a quiet operation, and that it is the same from another state that agrees where it looks -/
theorem subs_iff {l m:List Nat}:subs l m=true↔∀x ∈ l,x ∈ m:=by
 simp only [subs,List.all_eq_true,nmem_iff]
theorem mem_opTmps {op:Op} {x:Operand} (h:x ∈ op.operands.toList) {t:Nat} (e:x=.tmp t):t ∈ opTmps op:=by
 subst e
 exact List.mem_filterMap.2 ⟨_,h,rfl⟩
theorem opnd_same {st st2:St} {op:Op} (h:∀t ∈ opTmps op,st2.slots t=st.slots t) {x:Operand} (hx:x ∈ op.operands.toList):st2.opnd x=st.opnd x:=by
 cases x with
 | tmp t=>exact h t (mem_opTmps hx rfl)
 | _=>rfl
theorem memOps_sub {op:Op} {x:Operand} (h:x ∈ memOps op):x ∈ op.operands.toList:=by
 unfold memOps at h
 split at h
 ·simpa [Op.operands] using h
 ·simp at h; subst h; simp [Op.operands]
 ·simp only [Op.operands,Call.operands]
  simp at h ⊢
  rcases h with h | h
  ·exact .inr h
  ·exact .inl h
 ·simpa [Op.operands,Call.operands] using h
 ·cases h
theorem operL_mem {ρ:Operand->Option SV}:∀{l:List Operand} {xs:List SV},operL ρ l=some xs->∀x ∈ l,∃v,ρ x=some v/\v ∈ xs
 | [],_,_,_,hx=>nomatch hx
 | o :: r,xs,h,x,hx=>by
  simp only [operL] at h
  split at h
  ·rename_i v l h1 h2
   cases h
   rcases List.mem_cons.1 hx with e | hx
   ·exact ⟨v,by rw [e]; exact h1,by simp⟩
   ·obtain ⟨u,hu,hm⟩:=operL_mem h2 x hx
    exact ⟨u,hu,by simp [hm]⟩
  ·cases h
structure Outcome (P:Program) (T:Tab) (m:CM) (h:Hint) (o:Oper) (st:St) (V:View) (R W:List Nat) (K:St->View->Prop) (p:Nat->Option SV) (q:Nat->Option Box):Prop where
 pd:∀t,t ∉ dstL o->p t=none
 qd:∀s,s ∉ W->q s=none
 next:K (ov p q st) V
 again:∀(st2:St) (V2:View) (K2:St->View->Prop),V.Le V2->(∀t ∈ opTmps o.op,st2.slots t=st.slots t)->(∀s ∈ R,st2.boxes s=st.boxes s)->K2 (ov p q st2) V2->vcBody P T m h o st2 V2 K2
variable {P:Program} {T:Tab} {LF RF:List Nat} {m:CM}
theorem dst_not {o:Oper} {t:Nat} (h:t ∉ dstL o):o.dst≠some t:=by
 intro e; apply h; simp [dstL,e]
/-- The heart: from what 'qeval' gives, and that it gives the same elsewhere. -/
theorem vcQ_out {o:Oper} {st:St} {V:View} {K:St->View->Prop} {R W:List Nat} {Q0:Q}
  (hnew:∀sc b x,Q0=.new sc b x->dstL o=W/\dstL o=R) (hupd:∀sc s b,Q0=.upd sc s b->s ∈ W) (happ:qtag Q0≠6)
  (hv:vcQ Q0 o.dst st V K) :
  ∃p q,(∀t,t ∉ dstL o->p t=none)/\(∀s,s ∉ W->q s=none)/\K (ov p q st) V /\
   ∀(st2:St) (V2:View) (K2:St->View->Prop),V.Le V2->(∀s ∈ R,st2.boxes s=st.boxes s)->K2 (ov p q st2) V2->vcQ Q0 o.dst st2 V2 K2:=by
 cases Q0 with
 | fail=>exact hv.elim
 | ret sc x=>
  obtain ⟨h1,h2⟩:=(andL_iff sc _).1 hv
  refine ⟨one o.dst x,fun _=>none,fun t ht=>one_none (dst_not ht),fun _ _=>rfl,by rw [← put_ov]; exact h2,?_⟩
  intro st2 V2 K2 _ _ hK
  exact (andL_iff sc _).2 ⟨h1,by rw [put_ov]; exact hK⟩
 | new sc b x=>
  obtain ⟨e1,e2⟩:=hnew _ _ _ rfl
  simp only [vcQ] at hv ⊢
  cases hd:o.dst with
  | none=>rw [hd] at hv; exact hv.elim
  | some d=>
   have hdl:dstL o=[d]:=by simp [dstL,hd]
   rw [hd] at hv
   dsimp only at hv ⊢
   split at hv
   ·rename_i hn
    obtain ⟨h1,h2⟩:=(andL_iff sc _).1 hv
    refine ⟨one (some d) (x d),one (some d) b,fun t ht=>one_none (by intro e; apply ht; rw [hdl]; simpa using e.symm),fun s hs=>one_none (by intro e; apply hs; rw [← e1,hdl]; simpa using e.symm),by rw [← boxput_ov]; exact h2,?_⟩
    intro st2 V2 K2 _ hR hK
    rw [hR d (by rw [← e2,hdl]; simp),hn]
    exact (andL_iff sc _).2 ⟨h1,by rw [boxput_ov]; exact hK⟩
   ·exact hv.elim
 | upd sc s b=>
  simp only [vcQ] at hv ⊢
  cases hd:o.dst with
  | some d=>rw [hd] at hv; exact hv.elim
  | none=>
   rw [hd] at hv
   dsimp only at hv ⊢
   obtain ⟨h1,h2⟩:=(andL_iff sc _).1 hv
   refine ⟨fun _=>none,one (some s) b,fun _ _=>rfl,fun t ht=>one_none (by intro e; apply ht; have:=hupd _ _ _ rfl; simp at e; rw [← e]; exact this),by rw [← box_ov]; exact h2,?_⟩
   intro st2 V2 K2 _ _ hK
   exact (andL_iff sc _).2 ⟨h1,by rw [box_ov]; exact hK⟩
 | rd a sh=>
  obtain ⟨x,h1,h2⟩:=sh.split hv
  obtain ⟨h3,h4⟩:=rdV_and.1 h1
  refine ⟨one o.dst x,fun _=>none,fun t ht=>one_none (dst_not ht),fun _ _=>rfl,by rw [← put_ov]; exact h4,?_⟩
  intro st2 V2 K2 hle _ hK
  exact h2 _ (rdV_and.2 ⟨rdV_le hle h3,by rw [put_ov]; exact hK⟩)
 | rdRow vs of size sh=>
  obtain ⟨x,h1,h2⟩:=sh.split hv
  refine ⟨one o.dst x,fun _=>none,fun t ht=>one_none (dst_not ht),fun _ _=>rfl,by rw [← put_ov]; exact h1.2,?_⟩
  intro st2 V2 K2 hle _ hK
  exact h2 _ ⟨h1.1,by rw [put_ov]; exact hK⟩
 | app a b c d e f g i j=>exact absurd rfl happ
 | mapp a b c d e f g i=>exact absurd rfl happ
theorem quiet_body {o:Oper} (h:quietC (clsOf LF RF o.op)=true) (st:St) (V:View) (K:St->View->Prop):vcBody' P T m o st V K=vcQ (qeval T st.opnd st.boxes o.op) o.dst st V K:=by
 unfold vcBody'
 split
 ·rename_i f args ts hop
  rw [hop] at h
  exfalso
  cases f with
  | func f=>
   simp only [clsOf] at h
   split at h
   ·split at h <;> cases h
   ·split at h
    ·cases h
    ·split at h <;> cases h
  | _=>cases h
 ·rename_i recv name args ts hop
  rw [hop] at h
  cases h
 ·rfl
theorem tag2_alloc {ρ:Operand->Option SV} {bx:Nat->Option Box} {op:Op}:qtag (qeval T ρ bx op)=2->clsOf LF RF op=.alloc:=by
 have le1:∀{q:Q} {X:Prop},qtag q<=1->qtag q=2->X:=by intro q X h h'; omega
 unfold qeval
 split
 case h_8=>
  split
  ·intro h; rcases tag_qLoad (bx:=bx) with h' | h' | h' | h' <;> (rw [h'] at h; cases h)
  ·exact le1 (Nat.zero_le _)
 case h_9=>
  split
  ·intro h; rcases tag_qStore (bx:=bx) with h' | h' <;> (rw [h'] at h; cases h)
  ·exact le1 (Nat.zero_le _)
 case h_11=>
  split
  ·split
   ·split
    ·exact le1 tag_qBin
    ·exact le1 (Nat.zero_le _)
   ·exact le1 tag_qBin
  ·exact le1 (Nat.zero_le _)
 case h_17=>exact fun _=>rfl
 case h_18=>
  split
  ·split
   ·split
    ·exact le1 tag_qSlice
    ·exact le1 (Nat.zero_le _)
   ·exact le1 (Nat.zero_le _)
  ·exact le1 (Nat.zero_le _)
 case h_21=>
  split
  ·exact le1 tag_qIndexAddr
  ·exact le1 (Nat.zero_le _)
 case h_23 c=>
  split
  ·intro h
   exfalso
   split at h <;> (try split at h) <;> (try split at h) <;> (try split at h) <;> first | (rcases tag_qAppend (bx:=bx) with h' | h' <;> (rw [h'] at h; cases h)) | cases h
  ·split
   ·intro h; rcases tag_qClear (T:=T) (bx:=bx) with h' | h' <;> (rw [h'] at h; cases h)
   ·exact le1 (Nat.zero_le _)
  ·split
   ·split
    ·exact le1 tag_qBuiltin
    ·exact le1 (Nat.zero_le _)
   ·exact le1 (Nat.zero_le _)
  ·exact le1 (Nat.zero_le _)
 all_goals
  first
  | exact fun _=>rfl
  | exact le1 (Nat.zero_le _)
  | ((repeat' split) <;> first | exact le1 (Nat.zero_le _) | exact le1 (Nat.le_refl _) | exact le1 tag_qIndexArr | (unfold qIface; (repeat' split) <;> first | exact le1 (Nat.zero_le _) | exact le1 (Nat.le_refl _)))
theorem hint_vals {st st2:St} {op:Op} (h:∀t ∈ opTmps op,st2.slots t=st.slots t):operL st2.opnd (memOps op)=operL st.opnd (memOps op):=
 operL_congr _ fun _ hx=>opnd_same h (memOps_sub hx)
/-- A quiet operation's outcome. -/
theorem quiet_out {h:Hint} {o:Oper} {st:St} {V:View} {K:St->View->Prop} {R W:List Nat} (hq:quietC (clsOf LF RF o.op)=true) (hrw:rwOf (clsOf LF RF o.op) h (dstL o)=some (R,W))
  (hv:vcBody P T m h o st V K):∃p q,Outcome P T m h o st V R W K p q:=by
 have core:(∀st2:St,(∀t ∈ opTmps o.op,st2.slots t=st.slots t)->(∀s ∈ R,st2.boxes s=st.boxes s)->qeval T st2.opnd st2.boxes o.op=qeval T st.opnd st.boxes o.op) ->
   (∀sc b x,qeval T st.opnd st.boxes o.op=.new sc b x->dstL o=W/\dstL o=R)->(∀sc s b,qeval T st.opnd st.boxes o.op=.upd sc s b->s ∈ W) ->
   (∀(st2:St) (V2:View) (K2:St->View->Prop),(∀t ∈ opTmps o.op,st2.slots t=st.slots t)->vcBody' P T m o st2 V2 K2->vcBody P T m h o st2 V2 K2) ->
   vcBody' P T m o st V K->∃p q,Outcome P T m h o st V R W K p q:=by
  intro he hn hu hb hv
  rw [quiet_body hq] at hv
  obtain ⟨p,q,h1,h2,h3,h4⟩:=vcQ_out (R:=R) (W:=W) hn hu (fun hQ=>by
   obtain ⟨cl,hop,hcal⟩:=(qtag_spec (T:=T) (ρ:=st.opnd) (bx:=st.boxes) (op:=o.op)).2.2 hQ
   rw [hop] at hq
   obtain ⟨cal,args,ts⟩:=cl
   dsimp only at hcal
   subst hcal
   cases hq) hv
  refine ⟨p,q,h1,h2,h3,fun st2 V2 K2 hle hsl hbx hK=>?_⟩
  refine hb st2 V2 K2 hsl ?_
  rw [quiet_body hq,he st2 hsl hbx]
  exact h4 st2 V2 K2 hle hbx hK
 have pureish:clsOf LF RF o.op=.pure \/ clsOf LF RF o.op=.alloc->h=.free->(clsOf LF RF o.op=.alloc->R=dstL o/\W=dstL o)->∃p q,Outcome P T m h o st V R W K p q:=by
  intro hc hf hd
  subst hf
  refine core (fun st2 hs _=>?_) (fun sc b x hQ=>?_) (fun sc s b hQ=>?_) (fun _ _ _ _ hb=>hb) hv
  ·rw [qeval_bx (bx':=st.boxes) hc]
   exact qeval_congr fun x hx=>opnd_same hs hx
  ·have:=hd (tag2_alloc (by rw [hQ]; rfl)); exact ⟨this.2.symm,this.1.symm⟩
  ·rcases (qtag_spec (T:=T) (ρ:=st.opnd) (bx:=st.boxes) (op:=o.op)).1 (by rw [hQ]; rfl) with ⟨t,y,x,hop⟩ | ⟨⟨cal,args,ts⟩,hop,hcal⟩
   ·rw [hop] at hc
    rcases hc with hc | hc <;> cases hc
   ·dsimp only at hcal
    subst hcal
    rw [hop] at hc
    rcases hc with hc | hc <;> cases hc
 generalize hc:clsOf LF RF o.op=c at hrw hq pureish
 cases c with
 | pure=>
  cases h with
  | free=>exact pureish (.inl rfl) rfl (fun e=>by cases e)
  | own l=>cases hrw
 | alloc=>
  cases h with
  | free=>
   simp only [rwOf,Option.some.injEq,Prod.mk.injEq] at hrw
   exact pureish (.inr rfl) rfl (fun _=>⟨hrw.1.symm,hrw.2.symm⟩)
  | own l=>cases hrw
 | load=>
  cases h with
  | free=>cases hrw
  | own l=>
   simp only [rwOf,Option.some.injEq,Prod.mk.injEq] at hrw
   obtain ⟨rfl,rfl⟩:=hrw
   have hop:∃t a,o.op=.load t a:=by
    generalize o.op=op at hc
    cases op with
    | load t a=>exact ⟨t,a,rfl⟩
    | call c=>obtain ⟨cal,args,ts⟩:=c; cases cal with
     | builtin b=>cases b <;> cases hc
     | value f=>cases f with
      | func f=>simp only [clsOf] at hc; split at hc <;> (try split at hc) <;> (try split at hc) <;> (try split at hc) <;> cases hc
      | _=>cases hc
     | _=>cases hc
    | _=>cases hc
   obtain ⟨t,a,hop⟩:=hop
   unfold vcBody at hv
   dsimp only at hv
   split at hv
   ·rename_i xs hxs
    split at hv
    ·rename_i hsub
     have hids:∀v,st.opnd a=some v->∀s ∈ v.ids,s ∈ l:=by
      intro v hv' s hs
      rw [subs_iff] at hsub
      apply hsub
      rw [hop] at hxs
      obtain ⟨u,hu,hm⟩:=operL_mem hxs a (by simp [memOps])
      rw [hop]
      simp only [hintIds]
      rw [hv'] at hu
      cases hu
      exact List.mem_flatMap.2 ⟨_,hm,hs⟩
     refine core (fun st2 hs hb=>?_) (fun sc b x hQ=>?_) (fun sc s b hQ=>?_) (fun st2 V2 K2 hs hb=>?_) hv
     ·rw [hop] at hs ⊢
      rw [qeval_congr (ρ':=st.opnd) fun x hx=>opnd_same hs hx]
      simp only [qeval]
      split
      ·rename_i i v hi hav
       exact (qload_bx fun s hs'=>hb s (hids v hav s hs')).symm
      ·rfl
     ·have:=tag2_alloc (LF:=LF) (RF:=RF) (op:=o.op) (T:=T) (ρ:=st.opnd) (bx:=st.boxes) (by rw [hQ]; rfl)
      rw [hop] at this; cases this
     ·rcases (qtag_spec (T:=T) (ρ:=st.opnd) (bx:=st.boxes) (op:=o.op)).1 (by rw [hQ]; rfl) with ⟨t,y,x,hop'⟩ | ⟨c,hop',-⟩ <;> (rw [hop] at hop'; cases hop')
     ·unfold vcBody
      dsimp only
      rw [hint_vals hs,hxs]
      dsimp only
      have:hintIds st2.boxes o.op (xs.flatMap SV.ids)=hintIds st.boxes o.op (xs.flatMap SV.ids):=by rw [hop]; rfl
      rw [this,hsub]
      exact hb
    ·exact hv.elim
   ·exact hv.elim
 | store=>
  cases h with
  | free=>cases hrw
  | own l=>
   simp only [rwOf,Option.some.injEq,Prod.mk.injEq] at hrw
   obtain ⟨rfl,rfl⟩:=hrw
   have hop:∃t a x,o.op=.store t a x:=by
    generalize o.op=op at hc
    cases op with
    | store t a x=>exact ⟨t,a,x,rfl⟩
    | call c=>obtain ⟨cal,args,ts⟩:=c; cases cal with
     | builtin b=>cases b <;> cases hc
     | value f=>cases f with
      | func f=>simp only [clsOf] at hc; split at hc <;> (try split at hc) <;> (try split at hc) <;> (try split at hc) <;> cases hc
      | _=>cases hc
     | _=>cases hc
    | _=>cases hc
   obtain ⟨t,a,y,hop⟩:=hop
   unfold vcBody at hv
   dsimp only at hv
   split at hv
   ·rename_i xs hxs
    split at hv
    ·rename_i hsub
     have hids:∀v,st.opnd a=some v->∀s ∈ v.ids,s ∈ l:=by
      intro v hv' s hs
      rw [subs_iff] at hsub
      apply hsub
      rw [hop] at hxs
      obtain ⟨u,hu,hm⟩:=operL_mem hxs a (by simp [memOps])
      rw [hop]
      simp only [hintIds]
      rw [hv'] at hu
      cases hu
      exact List.mem_flatMap.2 ⟨_,hm,hs⟩
     refine core (fun st2 hs hb=>?_) (fun sc b x hQ=>?_) (fun sc s b hQ=>?_) (fun st2 V2 K2 hs hb=>?_) hv
     ·rw [hop] at hs ⊢
      rw [qeval_congr (ρ':=st.opnd) fun x hx=>opnd_same hs hx]
      simp only [qeval]
      split
      ·rename_i i v w hi hav hw
       exact (qstore_bx fun s hs'=>hb s (hids v hav s hs')).symm
      ·rfl
     ·have:=tag2_alloc (LF:=LF) (RF:=RF) (op:=o.op) (T:=T) (ρ:=st.opnd) (bx:=st.boxes) (by rw [hQ]; rfl)
      rw [hop] at this; cases this
     ·rw [hop] at hQ
      simp only [qeval] at hQ
      split at hQ
      ·rename_i i v w hi hav hw
       exact hids v hav s (qstore_upd hQ)
      ·cases hQ
     ·unfold vcBody
      dsimp only
      rw [hint_vals hs,hxs]
      dsimp only
      have:hintIds st2.boxes o.op (xs.flatMap SV.ids)=hintIds st.boxes o.op (xs.flatMap SV.ids):=by rw [hop]; rfl
      rw [this,hsub]
      exact hb
    ·exact hv.elim
   ·exact hv.elim
 | _=>cases hq
end Go.Eng
/- Any order, part two: calls; two operations change places. -/
namespace Go.Eng
variable {P:Program} {T:Tab} {LF RF:List Nat} {m:CM}
def Good (p:Nat->Option SV) (q:Nat->Option Box) (W D:List Nat) (st:St) (V:View) (K:St->View->Prop):St->View->Prop:=
 fun st2 V2=>V.Le V2/\(∀t,t ∉ D->st2.slots t=st.slots t)/\(∀s,s ∉ W->st2.boxes s=st.boxes s)/\K (ov p q st2) V2
theorem boxIds_congr {bx bx':Nat->Option Box}:∀{l:List Nat},(∀s ∈ l,bx' s=bx s)->l.flatMap (boxIds bx')=l.flatMap (boxIds bx)
 | [],_=>rfl
 | s :: r,h=>by
  simp only [List.flatMap_cons]
  rw [boxIds_congr fun s hs=>h s (by simp [hs])]
  simp only [boxIds]
  rw [h s (by simp)]
theorem reach_congr {bx bx':Nat->Option Box}:∀(n:Nat) (l:List Nat),(∀s ∈ reach bx n l,bx' s=bx s)->reach bx' n l=reach bx n l
 | 0,_,_=>rfl
 | n + 1,l,h=>by
  have hl:∀s ∈ l,bx' s=bx s:=fun s hs=>h s (reach_sub (n + 1) l s hs)
  simp only [reach] at h ⊢
  rw [boxIds_congr hl]
  exact reach_congr n _ h
theorem closedB_congr {bx bx':Nat->Option Box} {l:List Nat} (h:∀s ∈ l,bx' s=bx s):closedB bx' l=closedB bx l:=by
 unfold closedB
 rw [Bool.eq_iff_iff,List.all_eq_true,List.all_eq_true]
 constructor
 ·intro g s hs; have:=g s hs; simp only [boxIds] at this ⊢; rw [h s hs] at this; exact this
 ·intro g s hs; have:=g s hs; simp only [boxIds] at this ⊢; rw [h s hs]; exact this
theorem allB_mono:∀{L:List Nat} {β:Nat->Nat} {k k':(Nat->Nat)->Prop},(∀β,k β->k' β)->allB L β k->allB L β k'
 | [],_,_,_,h,g=>h _ g
 | _ :: _,_,_,_,h,g=>fun b=>allB_mono h (g b)
theorem neH_mono {bx bx':Nat->Option Box} {b:Box} {β:Nat->Nat} {s:Nat}:∀{r:List Nat} {k k':Prop},(∀t ∈ r,bx' t=bx t)->(k->k')->neH bx b β s r k->neH bx' b β s r k'
 | [],_,_,_,h,g=>h g
 | t :: r,k,k',hb,h,g=>by
  have hr:=fun t ht=>hb t (List.mem_cons_of_mem _ ht)
  simp only [neH] at g ⊢
  rw [hb t (by simp)]
  cases hbq:Nat.beq s t with
  | true=>rw [hbq] at g; exact neH_mono hr h g
  | false=>
   rw [hbq] at g
   simp only [cond_false] at g ⊢
   split at g
   ·exact fun hn=>neH_mono hr h (g hn)
   ·exact g
theorem lentH_mono {bx bx':Nat->Option Box} {β:Nat->Nat} {V:View}:∀{L:List Nat} {k k':Prop},(∀s ∈ L,bx' s=bx s)->((∀s ∈ L,∃b,bx s=some b/\(b.live->V.H (β s)))->k->k')->lentH bx β V L k->lentH bx' β V L k'
 | [],_,_,_,h,g=>h (fun s hs=>absurd hs (by simp)) g
 | s :: r,k,k',hb,h,g=>by
  have hr:=fun t ht=>hb t (List.mem_cons_of_mem _ ht)
  simp only [lentH] at g ⊢
  rw [hb s (by simp)]
  split at g
  ·rename_i b hbs
   refine fun h1 h2=>lentH_mono hr (fun hf=>neH_mono hr (fun hk=>h (fun t ht=>?_) hk)) (g h1 h2)
   rcases List.mem_cons.1 ht with rfl | ht
   ·exact ⟨b,hbs,impL_gd.1 h2⟩
   ·exact hf t ht
  ·exact g
theorem exKeep_mono {mv:Option (Nat × Nat)}:∀{cs zs:List C} {K K':List C->Prop},(∀c,K c->K' c)->exKeep mv cs zs K->exKeep mv cs zs K'
 | [],_,_,_,h,g=>h _ g
 | _ :: _,[],_,_,_,g=>g.elim
 | c :: r,z :: zr,K,K',h,g=>by
  simp only [exKeep] at g ⊢
  split at g
  ·split at g
   ·split at g
    ·obtain ⟨n,c,g⟩:=g
     exact ⟨n,c,exKeep_mono (fun cs hk=>h _ hk) g⟩
    ·exact g.elim
   ·exact g.elim
  ·split at g
   ·obtain ⟨v,h1,h2⟩:=Sh1.split _ g
    rename_i hc
    rw [hc] at *
    exact h2 _ (exKeep_mono (fun cs hk=>h _ hk) h1)
   ·exact exKeep_mono (fun cs hk=>h _ hk) g
variable {p:Nat->Option SV} {q:Nat->Option Box}
theorem lentEx_over {mv:Option (Nat × Nat)} {β:Nat->Nat} {V:View} {W:List Nat}:∀{L:List Nat} {st:St} {k k':St->Prop},(∀s ∈ L,q s=none/\s ∈ W) ->
  (∀st',(∀t,st'.slots t=st.slots t)->(∀s,s ∉ W->st'.boxes s=st.boxes s)->k (ov p q st')->k' st')->lentEx T mv β V L (ov p q st) k->lentEx T mv β V L st k'
 | [],st,k,k',_,h,g=>h st (fun _=>rfl) (fun _ _=>rfl) g
 | s :: r,st,k,k',hq,h,g=>by
  obtain ⟨hqs,hsW⟩:=hq s (by simp)
  have hr:∀s ∈ r,q s=none/\s ∈ W:=fun s hs=>hq s (by simp [hs])
  have hbox:∀b:Box,∀k1:St->Prop,(∀st',k1 st'=k st')->lentEx T mv β V r ((ov p q st).box s b) k1->lentEx T mv β V r (st.box s b) k':=by
   intro b k1 hk1 g
   rw [ov_box hqs] at g
   refine lentEx_over hr (fun st' h1 h2 hk=>h st' h1 (fun s' hs'=>?_) (by rw [← hk1]; exact hk)) g
   rw [h2 s' hs',box_boxes,if_neg (fun e=>hs' (by rw [e]; exact hsW))]
  simp only [lentEx] at g ⊢
  rw [ov_boxes hqs] at g
  split at g
  ·rename_i cs ty hb
   split at g
   ·rename_i i hi
    exact exKeep_mono (fun cs' hk=>⟨hk.1,hbox _ _ (fun _=>rfl) hk.2⟩) g
   ·exact g
  ·obtain ⟨vs,h1,h2⟩:=g
   exact ⟨vs,h1,hbox _ _ (fun _=>rfl) h2⟩
  ·obtain ⟨h0,vs,h3,h1,h2⟩:=g
   exact ⟨h0,vs,h3,h1,hbox _ _ (fun _=>rfl) h2⟩
  ·exact g
theorem le_lend (V:View) (l:List Nat):V.Le (V.lend l):=fun _ _ h=>h
theorem le_shut (V:View):V.Le V.shut:=fun _ _ h=>h
theorem le_hideG {V V' V'':View} {P:Prop} {b:Nat} (h:V.Le V'') (h':V.Le V') (hb:P->V'.w.heap.size<=b \/ V'.H b):V.Le (V''.shut.hideG P b):=by
 intro x o hx
 obtain ⟨h1,h2⟩:=h x o hx
 obtain ⟨h3,h4⟩:=h' x o hx
 refine ⟨fun hh=>?_,h2⟩
 rcases hh with hh | ⟨hp,e,-⟩
 ·exact h1 hh
 ·subst e
  rcases hb hp with h5 | h5
  ·have:=lt_of_some h4; omega
  ·exact h3 h5
theorem nbOf_mem {m:Option Nat} {d:Nat}:nbOf m d=d \/ nbOf m d=d + 200000:=by
 cases m with
 | none=>exact .inl rfl
 | some m=>
  simp only [nbOf,nid]
  cases Nat.blt m 100000 with
  | true=>exact .inl rfl
  | false=>exact .inr rfl
theorem moved_over {give:Bool} {sh:Sh} {L:List Nat} {mm:Option Nat} {d:Nat} {ety:TypeId} {β:Nat->Nat} {st:St} {V V' V'':View} {K K':St->View->Prop} {W D:List Nat} {r':Value}
  (hL:∀s ∈ L,q s=none/\s ∈ W) (hm:∀k,mm=some k->k ∈ L) (hp:p d=none/\d ∈ D) (hq:q (nbOf mm d)=none/\nbOf mm d ∈ W) (hV:V.Le V') (hV2:V.Le V'')
  (hlv:∀s ∈ L,∃b,st.boxes s=some b/\(b.live->V'.H (β s))) (hK:∀s2 V2,Good p q W D st V K s2 V2->K' s2 V2)
  (h:vcMoved T give sh L mm d ety β (ov p q st) V' K r' V''):vcMoved T give sh L mm d ety β st V' K' r' V'':=by
 unfold vcMoved at h ⊢
 obtain ⟨b',vs',h1,h2,h3⟩:=h
 have h2':vs'≠[]->V'.w.heap.size<=b' \/ whereM mm st β b':=by
  intro hne
  refine (h2 hne).imp id fun h=>?_
  unfold whereM at h ⊢
  cases mm with
  | none=>exact h
  | some k=>
   dsimp only at h ⊢
   rw [ov_boxes (hL k (hm k rfl)).1] at h
   exact h
 have hhid:vs'≠[]->V'.w.heap.size<=b' \/ V'.H b':=by
  intro hne
  refine (h2' hne).imp id fun h=>?_
  unfold whereM at h
  cases mm with
  | none=>exact h.elim
  | some k=>
   dsimp only at h
   obtain ⟨b0,hb0,hHk⟩:=hlv k (hm k rfl)
   rw [hb0] at h
   obtain ⟨cs,ty⟩:=b0
   cases cs with
   | lit cs=>have h:b'=β k:=h; rw [h]; exact hHk live_lit
   | row cs=>have h:b'=β k:=h; rw [h]; exact hHk live_row
   | mrow vs=>have h:vs≠[]/\b'=β k:=h; rw [h.2]; exact hHk (live_mrow h.1)
 refine ⟨b',vs',h1,h2',Sh.mono h3 fun x hx=>⟨hx.1,?_⟩⟩
 have e1:(goneM mm ety (ov p q st)).box (nbOf mm d) ⟨.mrow vs',ety⟩=ov p q ((goneM mm ety st).box (nbOf mm d) ⟨.mrow vs',ety⟩):=by
  cases mm with
  | none=>exact ov_box hq.1
  | some k=>
   simp only [goneM]
   rw [ov_box (hL k (hm k rfl)).1,ov_box hq.1]
 have hx2:=hx.2
 rw [e1] at hx2
 have hsub:∀s ∈ lessM mm L,q s=none/\s ∈ W:=by
  intro s hs
  cases mm with
  | none=>exact hL s hs
  | some k=>exact hL s (minusOne.1 hs).1
 refine lentEx_over hsub (fun st' g1 g2 hk=>?_) hx2
 rw [ov_put (fun k hk=>by cases hk; exact hp.1)] at hk
 refine hK _ _ ⟨le_hideG hV2 hV hhid,?_,?_,hk⟩
 ·intro t ht
  rw [put_slots,if_neg (fun e=>ht (by rw [e]; exact hp.2)),g1]
  cases mm <;> rfl
 ·intro s hs
  show st'.boxes s=_
  rw [g2 s hs,box_boxes,if_neg (fun e=>hs (by rw [e]; exact hq.2))]
  cases mm with
  | none=>rfl
  | some k=>simp only [goneM]; rw [box_boxes,if_neg (fun e=>hs (by rw [e]; exact (hL k (hm k rfl)).2))]
theorem mvs_in {bx:Nat->Option Box} {L:List Nat} (hcl:closedB bx L=true):∀k,k ∈ mvsOf bx L->k ∈ L:=by
 intro k hk
 unfold mvsOf at hk
 obtain ⟨s,hs,hk⟩:=List.mem_flatMap.1 (dedup_mem.1 hk)
 split at hk
 ·rename_i cs ty hb
  refine closed_spec hcl hs hb k ?_
  have:∀cs:List C,k ∈ mslIds cs->k ∈ cs.flatMap C.ids:=by
   intro cs
   induction cs with
   | nil=>exact fun h=>nomatch h
   | cons c r ih=>
    intro h
    rw [List.flatMap_cons,List.mem_append]
    cases c <;> simp only [mslIds,List.mem_cons] at h <;> first
     | exact .inr (ih h)
     | (rcases h with h | h
        ·left; simp [C.ids,h]
        ·exact .inr (ih h))
  exact this cs hk
 ·cases hk
theorem firstSl_in {xs:List SV}:∀k,k ∈ firstSl xs->k ∈ xs.flatMap SV.ids:=by
 intro k
 induction xs with
 | nil=>exact fun h=>nomatch h
 | cons x r ih=>
  intro h
  rw [List.flatMap_cons,List.mem_append]
  unfold firstSl at h
  split at h
  ·rename_i heq; cases heq
  ·rename_i s n c r' heq; cases heq; exact .inl h
  ·rename_i s n c r' heq; cases heq; exact .inl h
  ·cases h
  ·rename_i heq; cases heq; exact .inr (ih h)
theorem mvsOf_congr {bx bx':Nat->Option Box} {L:List Nat} (h:∀s ∈ L,bx' s=bx s):mvsOf bx' L=mvsOf bx L:=by
 unfold mvsOf
 congr 1
 induction L with
 | nil=>rfl
 | cons s r ih=>simp only [List.flatMap_cons]; rw [h s (by simp),ih fun s hs=>h s (by simp [hs])]
theorem nbFree_congr {st:St} {mm:Option Nat} {d:Nat} (h:q (nbOf mm d)=none):nbFree (ov p q st) mm d=nbFree st mm d:=by
 unfold nbFree; rw [ov_boxes h]
theorem lentB_congr {bx bx':Nat->Option Box} {β:Nat->Nat} {N:Nat} {L:List Nat} (h:∀s ∈ L,bx' s=bx s):L.map (lentB bx' β N)=L.map (lentB bx β N):=
 List.map_congr_left fun s hs=>by unfold lentB; rw [h s hs]
theorem vcCall0_over {f:FuncId} {xs:List SV} {ty:TypeId} {dst:Option Nat} {st:St} {V:View} {K:St->View->Prop} {W D:List Nat}
  (hm:m=.none \/ ((m=.lend \/ m=.give)/\(∀s ∈ reach (ov p q st).boxes 3 (dedup (xs.flatMap SV.ids)),q s=none/\s ∈ W)/\∀k,dst=some k->∀mm,q (nbOf mm k)=none/\nbOf mm k ∈ W)) (hd:∀k,dst=some k->p k=none/\k ∈ D)
  {K':St->View->Prop} (hK:∀s2 V2,Good p q W D st V K s2 V2->K' s2 V2) (hv:vcCall0 P T m f xs ty dst (ov p q st) V K):vcCall0 P T m f xs ty dst st V K':=by
 have hput:∀(st':St) (x:SV),(∀t,st'.slots t=st.slots t)->∀t,t ∉ D->(st'.put dst x).slots t=st.slots t:=by
  intro st' x h t ht
  cases dst with
  | none=>exact h t
  | some d=>rw [put_slots,if_neg (fun e=>ht (by rw [e]; exact (hd d rfl).2))]; exact h t
 have hbx:∀(st':St) (x:SV),(st'.put dst x).boxes=st'.boxes:=by intro st' x; cases dst <;> rfl
 unfold vcCall0 at hv ⊢
 split at hv
 ·exact hv.elim
 ·rename_i sh hsh
  have hre:∀L,reach (ov p q st).boxes 3 (dedup (xs.flatMap SV.ids))=L->(∀s ∈ L,q s=none)->reach st.boxes 3 (dedup (xs.flatMap SV.ids))=L:=by
   intro L hL hqL
   rw [← hL]
   exact reach_congr 3 _ fun s hs=>(ov_boxes (hqL s (by rw [← hL]; exact hs))).symm
  have hsubL:∀s ∈ xs.flatMap SV.ids,s ∈ reach (ov p q st).boxes 3 (dedup (xs.flatMap SV.ids)):=fun s hs=>reach_sub 3 _ s (dedup_mem.2 hs)
  generalize hr:reach (ov p q st).boxes 3 (dedup (xs.flatMap SV.ids))=L at hv hm hsubL
  cases L with
  | nil=>
   rw [hre _ hr (fun s hs=>nomatch hs)]
   have plain:(∀V':View,V.Le V'->Acts P f (denArgs (fun _=>0) xs) V' fun r V''=>sh.ex fun x=>r=x.den (fun _=>0)/\K ((ov p q st).put dst x) V'') ->
     ∀V':View,V.Le V'->Acts P f (denArgs (fun _=>0) xs) V' fun r V''=>sh.ex fun x=>r=x.den (fun _=>0)/\K' (st.put dst x) V'':=by
    intro hv V' hV'
    refine (hv V' hV').mono fun r V'' hle hk=>Sh.mono hk fun x hx=>⟨hx.1,?_⟩
    have h2:=hx.2
    rw [ov_put (fun k hk=>(hd k hk).1)] at h2
    exact hK _ _ ⟨hV'.trans hle,hput st x fun _=>rfl,fun s _=>by rw [hbx],h2⟩
   rcases hm with rfl | ⟨rfl | rfl,-,hnb⟩
   ·exact plain hv
   ·exact plain hv
   ·dsimp only at hv ⊢
    split at hv
    ·rename_i d ety hgt
     rw [nbFree_congr (hnb d rfl Option.none).1] at hv
     split at hv
     ·exact hv.elim
     ·rename_i hfree
      intro V' hV'
      refine (hv V' hV').mono fun r V'' hle hk=>?_
      exact moved_over (W:=W) (D:=D) (fun s hs=>absurd hs (by simp)) (fun k hk=>by cases hk) (hd d rfl) (hnb d rfl Option.none) hV' (hV'.trans hle) (fun s hs=>absurd hs (by simp)) hK hk
    ·exact hv.elim
  | cons s r=>
   dsimp only at hv
   split at hv
   ·exact hv.elim
   ·rename_i hcl
    have lend:m=.lend \/ m=.give->(∀t ∈ s :: r,q t=none/\t ∈ W)->(∀k,dst=some k->∀mm,q (nbOf mm k)=none/\nbOf mm k ∈ W) ->
      ∀{give:Bool} {mm:Option Nat} {d:Nat} {ety:TypeId},dst=some d->(∀k,mm=some k->k ∈ s :: r) ->
      (∀V':View,V.Le V'->allB (s :: r) (fun _=>0) fun β=>lentH (ov p q st).boxes β V' (s :: r) (Acts P f (denArgs β xs) (V'.lend ((s :: r).map (lentB (ov p q st).boxes β V'.w.heap.size))) (vcMoved T give sh (s :: r) mm d ety β (ov p q st) V' K))) ->
      ∀V':View,V.Le V'->allB (s :: r) (fun _=>0) fun β=>lentH st.boxes β V' (s :: r) (Acts P f (denArgs β xs) (V'.lend ((s :: r).map (lentB st.boxes β V'.w.heap.size))) (vcMoved T give sh (s :: r) mm d ety β st V' K')):=by
     intro _ hmm hnb give mm d ety hdst hmmL hv V' hV'
     have hbxL:∀t ∈ s :: r,st.boxes t=(ov p q st).boxes t:=fun t ht=>(ov_boxes (hmm t ht).1).symm
     refine allB_mono (fun β hb=>?_) (hv V' hV')
     rw [lentB_congr (bx:=(ov p q st).boxes) hbxL]
     refine lentH_mono (bx:=(ov p q st).boxes) hbxL (fun hH hfn=>?_) hb
     refine hfn.mono fun r' V'' hle hk=>?_
     have hle2:V.Le V'':=(hV'.trans (le_lend V' _)).trans hle
     exact moved_over hmm hmmL (hd d hdst) (hnb d hdst mm) hV' hle2 (fun t ht=>by rw [hbxL t ht]; exact hH t ht) hK hk
    have base:m=.lend \/ m=.give->(∀t ∈ s :: r,q t=none/\t ∈ W)/\(∀k,dst=some k->∀mm,q (nbOf mm k)=none/\nbOf mm k ∈ W):=by
     intro h
     rcases hm with rfl | ⟨-,h1,h2⟩
     ·rcases h with h | h <;> cases h
     ·exact ⟨h1,h2⟩
    have cl2:(∀t ∈ s :: r,q t=none/\t ∈ W)->closedB st.boxes (s :: r)=true:=fun hmm=>by
     rw [closedB_congr (bx:=(ov p q st).boxes) (fun t ht=>(ov_boxes (hmm t ht).1).symm)]; exact hcl
    split at hv
    ·exact hv.elim
    ·exact hv.elim
    ·
     obtain ⟨hmm,hnb⟩:=base (.inr rfl)
     rw [hre _ hr (fun t ht=>(hmm t ht).1)]
     dsimp only
     rw [cl2 hmm]
     dsimp only
     have hmv:=mvsOf_congr (bx:=(ov p q st).boxes) (bx':=st.boxes) (L:=s :: r) (fun t ht=>(ov_boxes (hmm t ht).1).symm)
     rw [hmv]
     split at hv
     ·rename_i d ety h1 h2 h3
      rw [nbFree_congr (hnb d rfl _).1] at hv
      split at hv
      ·exact hv.elim
      ·rename_i hfree
       exact lend (.inr rfl) hmm hnb rfl (fun k hk=>by cases hk) hv
     ·rename_i d ety k h1 h2 h3
      rw [nbFree_congr (hnb d rfl _).1] at hv
      split at hv
      ·exact hv.elim
      ·rename_i hfree
       exact lend (.inr rfl) hmm hnb rfl (fun j hj=>by cases hj; exact hsubL k (firstSl_in k (by rw [h2]; simp))) hv
     ·exact hv.elim
    ·
     obtain ⟨hmm,hnb⟩:=base (.inl rfl)
     rw [hre _ hr (fun t ht=>(hmm t ht).1)]
     dsimp only
     rw [cl2 hmm]
     dsimp only
     have hbxL:∀t ∈ s :: r,st.boxes t=(ov p q st).boxes t:=fun t ht=>(ov_boxes (hmm t ht).1).symm
     have hmv:=mvsOf_congr (bx:=(ov p q st).boxes) (bx':=st.boxes) (L:=s :: r) hbxL
     rw [hmv]
     split at hv
     ·intro V' hV'
      refine allB_mono (fun β hb=>?_) (hv V' hV')
      rw [lentB_congr (bx:=(ov p q st).boxes) hbxL]
      refine lentH_mono (bx:=(ov p q st).boxes) hbxL (fun _ hfn=>?_) hb
      refine hfn.mono fun r' V'' hle hk=>Sh.mono hk fun x hx=>⟨hx.1,?_⟩
      refine lentEx_over hmm (fun st' h1 h2 hk=>?_) hx.2
      rw [ov_put (fun k hk=>(hd k hk).1)] at hk
      exact hK _ _ ⟨((hV'.trans (le_lend V' _)).trans hle).trans (le_shut _),hput st' x h1,fun t ht=>by rw [hbx]; exact h2 t ht,hk⟩
     ·rename_i k hk
      have hkL:k ∈ s :: r:=mvs_in hcl k (by rw [hk]; simp)
      have hty:boxTy st.boxes k=boxTy (ov p q st).boxes k:=by unfold boxTy; rw [hbxL k hkL]
      rw [hty]
      split at hv
      ·rename_i d ety hbt
       rw [nbFree_congr (hnb d rfl _).1] at hv
       split at hv
       ·exact hv.elim
       ·rename_i hfree
        exact lend (.inl rfl) hmm hnb rfl (fun j hj=>by cases hj; exact hkL) hv
      ·exact hv.elim
     ·exact hv.elim
    ·rcases hm with h | h
     ·cases h
     ·rcases h.1 with h | h <;> cases h
theorem reach_le {bx:Nat->Option Box}:∀(n:Nat) {l l':List Nat},(∀x ∈ l,x ∈ l')->∀x ∈ reach bx n l,x ∈ reach bx n l'
 | 0,_,_,h,x,hx=>h x hx
 | n + 1,l,l',h,x,hx=>by
  simp only [reach] at hx ⊢
  refine reach_le n (fun y hy=>?_) x hx
  rw [dedup_mem,List.mem_append] at hy ⊢
  rcases hy with hy | hy
  ·exact .inl (h y hy)
  ·obtain ⟨z,hz,hy⟩:=List.mem_flatMap.1 hy
   exact .inr (List.mem_flatMap.2 ⟨z,h z hz,hy⟩)
theorem vcCall_over {f:FuncId} {xs:List SV} {ty:TypeId} {dst:Option Nat} {st:St} {V:View} {K:St->View->Prop} {W D:List Nat}
  (hm:m=.none \/ ((m=.lend \/ m=.give)/\(∀s ∈ reach (ov p q st).boxes 3 (dedup (xs.flatMap SV.ids)),q s=none/\s ∈ W)/\∀k,dst=some k->∀mm,q (nbOf mm k)=none/\nbOf mm k ∈ W)) (hd:∀k,dst=some k->p k=none/\k ∈ D)
  {K':St->View->Prop} (hK:∀s2 V2,Good p q W D st V K s2 V2->K' s2 V2) (hv:vcCall P T m f xs ty dst (ov p q st) V K):vcCall P T m f xs ty dst st V K':=by
 have hm0:=hm
 cases m with
 | lend=>
  obtain ⟨h1,h2⟩:(∀s ∈ reach (ov p q st).boxes 3 (dedup (xs.flatMap SV.ids)),q s=none/\s ∈ W)/\∀k,dst=some k->∀mm,q (nbOf mm k)=none/\nbOf mm k ∈ W:=by
   rcases hm with h | ⟨-,h1,h2⟩
   ·cases h
   ·exact ⟨h1,h2⟩
  unfold vcCall at hv ⊢
  dsimp only at hv ⊢
  rw [splitM_congr (bx:=st.boxes) (bx':=(ov p q st).boxes) (fun s hs=>ov_boxes (h1 s (reach_sub 3 _ s (dedup_mem.2 hs))).1)] at hv
  split at hv
  ·rename_i vs c xs' e
   exact ⟨fun he=>⟨(hv.1 he).1,vcCall0_over (.inr ⟨.inl rfl,fun s hs=>h1 s (reach_le 3 (fun x hx=>dedup_mem.2 (splitM_ids e x (dedup_mem.1 hx))) s hs),h2⟩) hd hK (hv.1 he).2⟩,fun he=>vcCall0_over hm0 hd hK (hv.2 he)⟩
  ·exact vcCall0_over hm0 hd hK hv
 | _=>exact vcCall0_over hm0 hd hK hv
theorem ov_comm {p2:Nat->Option SV} {q2:Nat->Option Box} {st:St} (hp:∀t,p t=none \/ p2 t=none) (hq:∀t,q t=none \/ q2 t=none):ov p q (ov p2 q2 st)=ov p2 q2 (ov p q st):=by
 unfold ov
 congr 1
 ·funext t
  dsimp only
  rcases hp t with h | h <;> rw [h]
 ·funext t
  dsimp only
  rcases hq t with h | h <;> rw [h]
/-! append -/
def appOld:Q->Option Nat
 | .app old _ _ _ _ _ _ _ _=>old
 | .mapp s _ _ _ _ _ _ _=>some s
 | _=>none
def qappL (T:Tab) (bx:Nat->Option Box) (l:Option (List SV)) (ts:List TypeId):Q:=
 match l,ts with
 | some [b,x],[t,t']=>match alook T t,alook T t' with
  | some i,some i'=>match i.k,i'.k with
   | .slice e,.slice _=>match alook T e with
    | some ei=>qAppend bx e ei b x
    | none=>.fail
   | _,_=>.fail
  | _,_=>.fail
 | _,_=>.fail
def appSrc (bx:Nat->Option Box) (sz:Nat) (x:SV):Option (OA × Nat ⊕ List Value):=
 match x with
 | .c (.v (.slice a k _))=>some (.inl (a,k))
 | .c (.slc s o k _)=>match bx s with
  | some ⟨.row ws,_⟩=>some (.inr (rowTake ws o (k * sz)))
  | _=>match boxVals bx s with
   | some ws=>if Nat.ble (o + k * sz) ws.length then some (.inr ((ws.drop o).take (k * sz))) else none
   | none=>none
 | _=>none
def appTo (bx:Nat->Option Box) (e:TypeId) (ei:TI) (b:SV) (src:OA × Nat ⊕ List Value):Q:=
 match b with
 | .c (.v (.slice a n c))=>.app none a [] n c src ei.size ei.bytes e
 | .c (.slc s 0 n c)=>match boxVals bx s,boxTy bx s with
  | some vs,some ty=>if Nat.beq ty e then .app (some s) none vs n c src ei.size ei.bytes e else .fail
  | _,_=>.fail
 | .c (.msl s n c)=>match bx s with
  | some ⟨.mrow vs,ty⟩=>if Nat.beq ty e then .mapp s vs n c src ei.size ei.bytes e else .fail
  | _=>.fail
 | _=>.fail
theorem qAppend_eq {bx:Nat->Option Box} {e:TypeId} {ei:TI} {b x:SV}:qAppend bx e ei b x=match vals? ei.zero with
  | none=>.fail
  | some zs=>if Nat.beq ei.bytes 0 || Nat.beq ei.size 0 || !(Nat.beq ei.size zs.length) then .fail else match appSrc bx ei.size x with
   | none=>.fail
   | some src=>appTo bx e ei b src:=rfl
theorem appSrc_bx {bx bx':Nat->Option Box} {sz:Nat} {x:SV}:(∀s ∈ x.ids,bx' s=bx s)->appSrc bx sz x=appSrc bx' sz x:=by
 unfold appSrc
 split
 ·exact fun _=>rfl
 ·intro h; unfold boxVals; rw [h _ (by simp [SV.ids,C.ids])]
 ·exact fun _=>rfl
theorem appTo_bx {bx bx':Nat->Option Box} {e:TypeId} {ei:TI} {b:SV} {src:OA × Nat ⊕ List Value}:(∀s ∈ b.ids,bx' s=bx s)->appTo bx e ei b src=appTo bx' e ei b src:=by
 unfold appTo
 split
 ·exact fun _=>rfl
 ·intro h; unfold boxVals boxTy; rw [h _ (by simp [SV.ids,C.ids])]
 ·intro h; rw [h _ (by simp [SV.ids,C.ids])]
 ·exact fun _=>rfl
theorem qAppend_bx {bx bx':Nat->Option Box} {e:TypeId} {ei:TI} {b x:SV} (h:∀s ∈ b.ids++x.ids,bx' s=bx s):qAppend bx e ei b x=qAppend bx' e ei b x:=by
 rw [qAppend_eq,qAppend_eq,appSrc_bx fun s hs=>h s (List.mem_append_right _ hs)]
 have:=fun src=>appTo_bx (bx:=bx) (bx':=bx') (e:=e) (ei:=ei) (b:=b) (src:=src) fun s hs=>h s (List.mem_append_left _ hs)
 simp only [this]
theorem qAppend_old {bx:Nat->Option Box} {e:TypeId} {ei:TI} {b x:SV}:∀s,appOld (qAppend bx e ei b x)=some s->s ∈ b.ids:=by
 intro s h
 unfold qAppend at h
 split at h
 ·cases h
 ·split at h
  ·cases h
  ·dsimp only at h
   split at h
   ·cases h
   ·split at h
    ·cases h
    ·split at h
     ·split at h
      ·cases h; simp [SV.ids,C.ids]
      ·cases h
     ·cases h
    ·split at h
     ·split at h
      ·cases h; simp [SV.ids,C.ids]
      ·cases h
     ·cases h
    ·cases h
theorem qapp_bx {bx bx':Nat->Option Box} {ys:List SV} {ts:List TypeId} {R:List Nat} (h:∀s ∈ ys.flatMap SV.ids,bx' s=bx s) (hR:∀s ∈ ys.flatMap SV.ids,s ∈ R) :
  qappL T bx (some ys) ts=qappL T bx' (some ys) ts/\∀s,appOld (qappL T bx (some ys) ts)=some s->s ∈ R:=by
 unfold qappL
 split
 ·rename_i b x t t' hb
  cases hb
  split
  ·split
   ·split
    ·exact ⟨qAppend_bx fun s hs=>h s (by simpa using hs),fun s hs=>hR s (by simp [qAppend_old s hs])⟩
    ·exact ⟨rfl,fun s hs=>nomatch hs⟩
   ·exact ⟨rfl,fun s hs=>nomatch hs⟩
  ·exact ⟨rfl,fun s hs=>nomatch hs⟩
 ·exact ⟨rfl,fun s hs=>nomatch hs⟩
theorem qapp_tag' {bx:Nat->Option Box} {e:TypeId} {ei:TI} {b x:SV}:qtag (qAppend bx e ei b x)=6 \/ qAppend bx e ei b x=.fail:=by
 unfold qAppend
 split
 ·exact .inr rfl
 ·split
  ·exact .inr rfl
  ·dsimp only
   split
   ·exact .inr rfl
   ·split <;> (try split) <;> (try split) <;> first | exact .inl rfl | exact .inr rfl
theorem qapp_tag {ρ:Operand->Option SV} {bx:Nat->Option Box} {args:Array Operand} {ts:Array TypeId}:qtag (qeval T ρ bx (.call ⟨.builtin .append,args,ts⟩))=6 \/ qeval T ρ bx (.call ⟨.builtin .append,args,ts⟩)=.fail:=by
 simp only [qeval]
 split
 ·split
  ·split
   ·split
    ·exact qapp_tag'
    ·exact .inr rfl
   ·exact .inr rfl
  ·exact .inr rfl
 ·exact .inr rfl
theorem vcQ_app_over {Q0:Q} {dst:Option Nat} {st:St} {V:View} {K K':St->View->Prop} {W D:List Nat} (ht:qtag Q0=6 \/ Q0=.fail)
  (ho:∀s,appOld Q0=some s->q s=none/\s ∈ W) (hd:∀k,dst=some k->(p k=none/\k ∈ D)/\∀s,q (nid s k)=none/\nid s k ∈ W) (hd0:∀k,dst=some k->q k=none/\k ∈ W)
  (hK:∀s2 V2,Good p q W D st V K s2 V2->K' s2 V2) (h:vcQ Q0 dst (ov p q st) V K):vcQ Q0 dst st V K':=by
 cases Q0 with
 | mapp s vs n c x size bytes ty=>
  simp only [vcQ] at h ⊢
  cases dst with
  | none=>exact h.elim
  | some d=>
   dsimp only at h ⊢
   obtain ⟨⟨hp,hD⟩,hn⟩:=hd d rfl
   obtain ⟨hs,hsW⟩:=ho s rfl
   have core:∀k xs,mappK s vs n c size bytes ty d (ov p q st) V K k xs->mappK s vs n c size bytes ty d st V K' k xs:=by
    rintro k xs ⟨h1,h2,h3,h4,h5,h6⟩
    refine ⟨h1,h2,h3,h4,h5,?_⟩
    rw [ov_boxes (hn s).1] at h6
    split at h6
    ·exact h6.elim
    ·intro spare c' g1 g2
     have:=h6 spare c' g1 g2
     rw [ov_box hs,ov_box (hn s).1,ov_put (fun k hk=>by cases hk; exact hp)] at this
     refine hK _ _ ⟨View.Le.refl V,?_,?_,this⟩
     ·intro t ht; rw [put_slots,if_neg (fun e=>ht (by rw [e]; exact hD))]; rfl
     ·intro t ht
      show ((st.box s _).box _ _).boxes t=_
      rw [box_boxes,if_neg (fun e=>ht (by rw [e]; exact (hn s).2)),box_boxes,if_neg (fun e=>ht (by rw [e]; exact hsW))]
   cases x with
   | inr xs=>exact core _ _ h
   | inl ak=>obtain ⟨xs,h1,h2,h3⟩:=h; exact ⟨xs,h1,h2,core _ _ h3⟩
 | app old ba vs n c x size bytes ty=>
  simp only [vcQ] at h ⊢
  cases dst with
  | none=>exact h.elim
  | some d=>
   dsimp only at h ⊢
   obtain ⟨⟨hp,hD⟩,hn⟩:=hd d rfl
   cases old with
   | some s=>
    dsimp only at h ⊢
    obtain ⟨hs,hsW⟩:=ho s rfl
    have core:∀k xs,appK s vs n c size bytes ty d (ov p q st) V K k xs->appK s vs n c size bytes ty d st V K' k xs:=by
     rintro k xs ⟨h1,h2,h3,h4,h5,h6⟩
     refine ⟨h1,h2,h3,h4,h5,?_⟩
     rw [ov_boxes (hn s).1] at h6
     split at h6
     ·exact h6.elim
     ·intro b J spare c' g1 g2
      have:=h6 b J spare c' g1 g2
      rw [ov_box hs,ov_box (hn s).1,ov_put (fun k hk=>by cases hk; exact hp)] at this
      refine hK _ _ ⟨View.Le.refl V,?_,?_,this⟩
      ·intro t ht; rw [put_slots,if_neg (fun e=>ht (by rw [e]; exact hD))]; rfl
      ·intro t ht
       show ((st.box s _).box _ _).boxes t=_
       rw [box_boxes,if_neg (fun e=>ht (by rw [e]; exact (hn s).2)),box_boxes,if_neg (fun e=>ht (by rw [e]; exact hsW))]
    cases x with
    | inr xs=>exact core _ _ h
    | inl ak=>obtain ⟨xs,h1,h2,h3⟩:=h; exact ⟨xs,h1,h2,core _ _ h3⟩
   | none=>
    dsimp only at h ⊢
    obtain ⟨q1,q2⟩:=hd0 d rfl
    obtain ⟨vs',g1,g2,g3,g4,h⟩:=h
    have core:∀k xs,appP vs' n c size bytes ty d (ov p q st) V K k xs->appP vs' n c size bytes ty d st V K' k xs:=by
     rintro k xs ⟨h1,h2,h3,h4,h5⟩
     refine ⟨h1,h2,h3,h4,?_⟩
     rw [ov_boxes q1] at h5
     split at h5
     ·exact h5.elim
     ·intro spare c' k1 k2
      have:=h5 spare c' k1 k2
      rw [ov_box q1,ov_put (fun k hk=>by cases hk; exact hp)] at this
      refine hK _ _ ⟨View.Le.refl V,?_,?_,this⟩
      ·intro t ht; rw [put_slots,if_neg (fun e=>ht (by rw [e]; exact hD))]; rfl
      ·intro t ht
       show (st.box d _).boxes t=_
       rw [box_boxes,if_neg (fun e=>ht (by rw [e]; exact q2))]
    refine ⟨vs',g1,g2,g3,g4,?_⟩
    cases x with
    | inr xs=>exact core _ _ h
    | inl ak=>
     obtain ⟨xs,h1,h2,h3,h4⟩:=h
     refine ⟨xs,h1,h2,fun e=>?_,fun e=>core _ _ (h4 e)⟩
     have:=h3 e
     rw [ov_put (fun k hk=>by cases hk; exact hp)] at this
     refine hK _ _ ⟨View.Le.refl V,?_,fun t ht=>rfl,this⟩
     intro t ht; rw [put_slots,if_neg (fun e=>ht (by rw [e]; exact hD))]
 | fail=>exact h.elim
 | _=>rcases ht with ht | ht <;> cases ht
/-- A change where an operation does not look may as well come behind it. -/
theorem body_over {h:Hint} {o:Oper} {st:St} {V:View} {K:St->View->Prop} {R W:List Nat}
  (hm:quietC (clsOf LF RF o.op)=true \/ (clsOf LF RF o.op=.call/\m=.none) \/ ((clsOf LF RF o.op=.lcall/\m=.lend) \/ (clsOf LF RF o.op=.give/\m=.give) \/ clsOf LF RF o.op=.app))
  (hrw:rwOf (clsOf LF RF o.op) h (dstL o)=some (R,W)) (hp:∀t,t ∈ opTmps o.op \/ t ∈ dstL o->p t=none) (hq:∀s ∈ R,q s=none)
  (hqW:∀s ∈ W,q s=none) {K':St->View->Prop} (hK:∀s2 V2,Good p q W (dstL o) st V K s2 V2->K' s2 V2) (hv:vcBody P T m h o (ov p q st) V K):vcBody P T m h o st V K':=by
 have hslots:∀t ∈ opTmps o.op,st.slots t=(ov p q st).slots t:=fun t ht=>by simp [ov,hp t (.inl ht)]
 rcases hm with hm | hm
 ·obtain ⟨p2,q2,hO⟩:=quiet_out hm hrw hv
  refine hO.again st V _ (View.Le.refl V) hslots (fun s hs=>(ov_boxes (hq s hs)).symm) ?_
  refine hK _ _ ⟨View.Le.refl V,fun t ht=>by simp [ov,hO.pd t ht],fun s hs=>by simp [ov,hO.qd s hs],?_⟩
  rw [ov_comm]
  ·exact hO.next
  ·intro t
   by_cases h:t ∈ dstL o
   ·exact .inl (hp t (.inr h))
   ·exact .inr (hO.pd t h)
  ·intro s
   by_cases h:s ∈ W
   ·exact .inl (hqW s h)
   ·exact .inr (hO.qd s h)
 ·
  have hval:∀(x:Operand),x ∈ o.op.operands.toList->(ov p q st).opnd x=st.opnd x:=fun x hx=>ov_opnd fun t e=>hp t (.inl (mem_opTmps hx e))
  have hdst:∀k,o.dst=some k->p k=none/\k ∈ dstL o:=fun k hk=>by
   have:k ∈ dstL o:=by simp [dstL,hk]
   exact ⟨hp k (.inr this),this⟩
  have body:(¬ clsOf LF RF o.op=.app)->∀(hh:∀xs f ss fop args ts,o.op=.call ⟨.value fop,args,ts⟩->operL (ov p q st).opnd args.toList=some xs->(ov p q st).opnd fop=some (.c (.clo f ss)) ->
    m=.none \/ ((m=.lend \/ m=.give)/\(∀s ∈ reach (ov p q st).boxes 3 (dedup ((xs++clAll ss).flatMap SV.ids)),q s=none/\s ∈ W)/\∀k,o.dst=some k->∀mm,q (nbOf mm k)=none/\nbOf mm k ∈ W)),
    vcBody' P T m o (ov p q st) V K->vcBody' P T m o st V K':=by
   intro happ hh hv
   unfold vcBody' at hv ⊢
   split at hv
   ·rename_i fop args ts hop
    have e1:operL (ov p q st).opnd args.toList=operL st.opnd args.toList:=operL_congr _ fun x hx=>hval x (by rw [hop]; simp [Op.operands,Call.operands]; exact .inr (by simpa using hx))
    have e2:(ov p q st).opnd fop=st.opnd fop:=hval fop (by rw [hop]; simp [Op.operands,Call.operands])
    split at hv
    ·rename_i xs hxs
     split at hv
     ·rename_i f ss hf
      have hmm:=hh _ _ _ _ _ _ hop hxs hf
      rw [e1] at hxs
      rw [e2] at hf
      simp only [hxs,hf]
      exact vcCall_over hmm hdst hK hv
     ·exact hv.elim
    ·exact hv.elim
   ·rename_i recv name args ts hop
    have hmn:m=.none:=by
     rw [hop] at hm
     rcases hm with ⟨-,h⟩ | ⟨h,-⟩ | ⟨h,-⟩ | h
     ·exact h
     ·cases h
     ·cases h
     ·cases h
    have e1:operL (ov p q st).opnd args.toList=operL st.opnd args.toList:=operL_congr _ fun x hx=>hval x (by rw [hop]; simp [Op.operands,Call.operands]; exact .inr (by simpa using hx))
    have e2:(ov p q st).opnd recv=st.opnd recv:=hval recv (by rw [hop]; simp [Op.operands,Call.operands])
    split at hv
    ·rename_i xs hxs
     split at hv
     ·rename_i t v hf
      split at hv
      ·rename_i f hmeth
       rw [e1] at hxs
       rw [e2] at hf
       simp only [hxs,hf,hmeth]
       exact vcCall_over (.inl hmn) hdst hK hv
      ·exact hv.elim
     ·exact hv.elim
    ·exact hv.elim
   ·rename_i hnc hnc2
    exfalso
    have hc4:clsOf LF RF o.op=.call \/ clsOf LF RF o.op=.lcall \/ clsOf LF RF o.op=.give:=by
     rcases hm with ⟨h,-⟩ | ⟨h,-⟩ | ⟨h,-⟩ | h
     ·exact .inl h
     ·exact .inr (.inl h)
     ·exact .inr (.inr h)
     ·exact absurd h happ
    clear hm happ hh
    generalize hop:o.op=op at hc4 hnc hnc2
    cases op with
    | call c=>
     obtain ⟨cal,args,ts⟩:=c
     cases cal with
     | builtin b=>cases b <;> rcases hc4 with h | h | h <;> cases h
     | value f=>exact hnc f args ts rfl
     | invoke r nm=>exact hnc2 r nm args ts rfl
    | _=>rcases hc4 with h | h | h <;> cases h
  have nbW:∀l:List Nat,W=l++dstL o++(dstL o).map (· + 200000)->∀k,o.dst=some k->∀mm,q (nbOf mm k)=none/\nbOf mm k ∈ W:=by
   intro l hW k hk mm
   have:nbOf mm k ∈ W:=by
    rw [hW]
    have hkd:=(hdst k hk).2
    rcases nbOf_mem (m:=mm) (d:=k) with h | h <;> rw [h] <;> simp [hkd]
   exact ⟨hqW _ this,this⟩
  have own:∀l:List Nat,h=.own l->R=l->W=l++dstL o++(dstL o).map (· + 200000)->(clsOf LF RF o.op=.lcall \/ clsOf LF RF o.op=.give \/ clsOf LF RF o.op=.app)->(¬ clsOf LF RF o.op=.app->m=.lend \/ m=.give)->vcBody P T m h o st V K':=by
   intro l hh hR hW hcl hmm
   subst hh hR
   unfold vcBody at hv ⊢
   dsimp only at hv ⊢
   split at hv
   ·rename_i ys hys
    split at hv
    ·rename_i hsub
     have e0:operL (ov p q st).opnd (memOps o.op)=operL st.opnd (memOps o.op):=operL_congr _ fun x hx=>hval x (memOps_sub hx)
     rw [← e0,hys]
     dsimp only
     have hin:∀s ∈ hintIds (ov p q st).boxes o.op (ys.flatMap SV.ids),s ∈ R:=subs_iff.1 hsub
     have e3:hintIds st.boxes o.op (ys.flatMap SV.ids)=hintIds (ov p q st).boxes o.op (ys.flatMap SV.ids):=by
      revert hin
      unfold hintIds
      split
      ·intro hin
       exact reach_congr 3 _ fun s hs=>(ov_boxes (hq s (hin s hs))).symm
      ·exact fun _=>rfl
     rw [e3,hsub]
     dsimp only
     have hWl:∀s ∈ R,s ∈ W:=fun s hs=>by rw [hW]; simp [hs]
     by_cases happ:clsOf LF RF o.op=.app
     ·
      have hop:∃args ts,o.op=.call ⟨.builtin .append,args,ts⟩:=by
       generalize o.op=op at happ
       cases op with
       | call c=>
        obtain ⟨cal,args,ts⟩:=c
        cases cal with
        | builtin b=>cases b <;> first | exact ⟨args,ts,rfl⟩ | cases happ
        | value f=>cases f with
         | func f=>simp only [clsOf] at happ; split at happ <;> (try split at happ) <;> (try split at happ) <;> (try split at happ) <;> cases happ
         | _=>cases happ
        | _=>cases happ
       | _=>cases happ
      obtain ⟨args,ts,hop⟩:=hop
      have e4:qeval T st.opnd st.boxes o.op=qeval T (ov p q st).opnd (ov p q st).boxes o.op/\∀s,appOld (qeval T st.opnd st.boxes o.op)=some s->s ∈ R:=by
       have e5:operL (ov p q st).opnd args.toList=operL st.opnd args.toList:=by rw [hop] at e0; exact e0
       have hys':operL st.opnd args.toList=some ys:=by rw [hop] at hys; rw [← e5]; exact hys
       have hin':∀s ∈ ys.flatMap SV.ids,s ∈ R:=by
        intro s hs
        refine hin s ?_
        rw [hop]
        simp only [hintIds]
        exact reach_sub 3 _ s (dedup_mem.2 hs)
       rw [hop]
       simp only [qeval]
       rw [e5,hys']
       exact qapp_bx (fun s hs=>by rw [ov_boxes (hq s (hin' s hs))]) hin'
      have hvb:vcQ (qeval T (ov p q st).opnd (ov p q st).boxes o.op) o.dst (ov p q st) V K:=by
       unfold vcBody' at hv
       rw [hop] at hv ⊢
       exact hv
      have hgoal:vcQ (qeval T st.opnd st.boxes o.op) o.dst st V K'->vcBody' P T m o st V K':=by
       intro h
       unfold vcBody'
       rw [hop] at h ⊢
       exact h
      rw [← e4.1] at hvb
      refine hgoal ?_
      have htag:∀Q0,qeval T st.opnd st.boxes o.op=Q0->qtag Q0=6 \/ Q0=.fail:=by
       intro Q0 hQ
       rw [← hQ,hop]
       exact qapp_tag
      generalize hQ0:qeval T st.opnd st.boxes o.op=Q0 at hvb e4
      exact vcQ_app_over (htag Q0 hQ0) (fun s hs=>⟨hq s (e4.2 s hs),hWl s (e4.2 s hs)⟩) (fun k hk=>⟨hdst k hk,fun s=>by
       have:=nbW R hW k hk (some s)
       exact this⟩) (fun k hk=>nbW R hW k hk Option.none) hK hvb
     ·have hmode:=hmm happ
      refine body happ (fun xs f ss fop args ts hop hxs hf=>.inr ⟨hmode,fun s hs=>?_,nbW R hW⟩) hv
      have:s ∈ R:=by
       apply hin
       rw [hop] at hys ⊢
       simp only [hintIds]
       have hy:ys.flatMap SV.ids=(xs++clAll ss).flatMap SV.ids:=by
        have:∀(l:List Operand) (xs:List SV) (x:Operand) (v:SV),operL (ov p q st).opnd l=some xs->(ov p q st).opnd x=some v->operL (ov p q st).opnd (l++[x])=some (xs++[v]):=by
         intro l
         induction l with
         | nil=>intro xs x v h1 h2; simp only [operL,Option.some.injEq] at h1; subst h1; simp [operL,h2]
         | cons o r ih=>
          intro xs x v h1 h2
          simp only [operL] at h1
          split at h1
          ·rename_i y l' h3 h4
           cases h1
           simp only [List.cons_append,operL,h3,ih _ x v h4 h2]
          ·cases h1
        simp only [memOps] at hys
        rw [this _ _ _ _ hxs hf] at hys
        cases hys
        simp only [List.flatMap_append]
        congr 1
        simp [clAll,SV.ids,C.ids,List.flatMap_map]
       rw [hy]
       exact hs
      exact ⟨hq s this,hWl s this⟩
    ·exact hv.elim
   ·exact hv.elim
  rcases hm with ⟨hc,hm⟩ | ⟨hc,hm⟩ | ⟨hc,hm⟩ | hc
  ·rw [hc] at hrw
   cases h with
   | own l=>cases hrw
   | free=>exact body (by rw [hc]; exact fun h=>by cases h) (fun _ _ _ _ _ _ _ _ _=>.inl hm) hv
  ·rw [hc] at hrw
   cases h with
   | free=>cases hrw
   | own l=>
    simp only [rwOf,Option.some.injEq,Prod.mk.injEq] at hrw
    exact own l rfl hrw.1.symm hrw.2.symm (.inl hc) (fun _=>.inl hm)
  ·rw [hc] at hrw
   cases h with
   | free=>cases hrw
   | own l=>
    simp only [rwOf,Option.some.injEq,Prod.mk.injEq] at hrw
    exact own l rfl hrw.1.symm hrw.2.symm (.inr (.inl hc)) (fun _=>.inr hm)
  ·rw [hc] at hrw
   cases h with
   | free=>cases hrw
   | own l=>
    simp only [rwOf,Option.some.injEq,Prod.mk.injEq] at hrw
    exact own l rfl hrw.1.symm hrw.2.symm (.inr (.inr hc)) (fun h=>absurd hc h)
end Go.Eng
/- Any order, part three: guards; two operations change places. -/
namespace Go.Eng
variable {P:Program} {T:Tab} {LF RF:List Nat}
def vcG (ops:Array Oper) (o:Oper) (st:St) (k:St->Bool->Prop):Prop:=
 match o.guard with
 | none=>k st true
 | some (j,b)=>match (ops[j]?).bind (·.dst) with
  | none=>False
  | some g=>match st.slots g with
   | some (.c .tt)=>k st b
   | some (.c .ff)=>k st (!b)
   | some (.c (.v (.bool c)))=>(c=true->k (st.put (some g) (.c .tt)) b)/\(c=false->k (st.put (some g) (.c .ff)) (!b))
   | some (.tup _)=>k st false
   | _=>False
def bodyW (P:Program) (T:Tab) (m:CM) (h:Hint) (o:Oper) (V:View) (K:St->View->Prop) (st:St) (w:Bool):Prop:=
 match w with
 | true=>vcBody P T m h o st V K
 | false=>K (st.put o.dst undefS) V
theorem vcOp_eq {m:CM} {h:Hint} {ops:Array Oper} {o:Oper} {st:St} {V:View} {K:St->View->Prop} :
  vcOp P T m h ops o st V K↔vcG ops o st (bodyW P T m h o V K):=by
 unfold vcOp vcG
 cases hg:o.guard with
 | none=>rfl
 | some jb=>
  obtain ⟨j,b⟩:=jb
  dsimp only
  cases hd:(ops[j]?).bind (·.dst) with
  | none=>rfl
  | some g=>
   dsimp only
   split <;> simp_all <;> cases b <;> rfl
def none2:Nat->Option Box:=fun _=>none
/-- How a guard turns out. -/
structure GOut (ops:Array Oper) (o:Oper) (st:St) (k:St->Bool->Prop) (p:Nat->Option SV) (w:Bool):Prop where
 pd:∀t,t ∉ guardT ops o->p t=none
 next:k (ov p none2 st) w
 again:∀(st2:St) (k2:St->Bool->Prop),(∀t ∈ guardT ops o,st2.slots t=st.slots t)->k2 (ov p none2 st2) w->vcG ops o st2 k2
theorem guard_out {ops:Array Oper} {o:Oper} {st:St} {k:St->Bool->Prop} (h:vcG ops o st k):∃p w,GOut ops o st k p w:=by
 unfold vcG at h
 split at h
 ·rename_i hg
  exact ⟨fun _=>none,true,fun _ _=>rfl,h,fun st2 k2 _ hk=>by unfold vcG; rw [hg]; exact hk⟩
 ·rename_i j b hg
  split at h
  ·exact h.elim
  ·rename_i g hd
   have hgt:guardT ops o=[g]:=by simp only [guardT,hg,hd]
   split at h
   ·rename_i hs
    exact ⟨fun _=>none,b,fun _ _=>rfl,h,fun st2 k2 ha hk=>by unfold vcG; simp only [hg,hd,ha g (by simp [hgt]),hs]; exact hk⟩
   ·rename_i hs
    exact ⟨fun _=>none,!b,fun _ _=>rfl,h,fun st2 k2 ha hk=>by unfold vcG; simp only [hg,hd,ha g (by simp [hgt]),hs]; exact hk⟩
   ·rename_i c hs
    cases c with
    | true=>
     refine ⟨one (some g) (.c .tt),b,fun t ht=>one_none (by intro e; apply ht; rw [hgt]; simpa using e.symm),?_,fun st2 k2 ha hk=>?_⟩
     ·have:=h.1 rfl; rw [put_ov] at this; exact this
     ·unfold vcG; simp only [hg,hd,ha g (by simp [hgt]),hs]
      exact ⟨fun _=>by rw [put_ov]; exact hk,fun e=>by cases e⟩
    | false=>
     refine ⟨one (some g) (.c .ff),!b,fun t ht=>one_none (by intro e; apply ht; rw [hgt]; simpa using e.symm),?_,fun st2 k2 ha hk=>?_⟩
     ·have:=h.2 rfl; rw [put_ov] at this; exact this
     ·unfold vcG; simp only [hg,hd,ha g (by simp [hgt]),hs]
      exact ⟨fun e=>(by cases e),fun _=>by rw [put_ov]; exact hk⟩
   ·rename_i xs hs
    exact ⟨fun _=>none,false,fun _ _=>rfl,h,fun st2 k2 ha hk=>by unfold vcG; simp only [hg,hd,ha g (by simp [hgt]),hs]; exact hk⟩
   ·exact h.elim
theorem vcG_mono {ops:Array Oper} {o:Oper} {st:St} {k k':St->Bool->Prop} (hk:∀s w,k s w->k' s w) (h:vcG ops o st k):vcG ops o st k':=by
 obtain ⟨p,w,hO⟩:=guard_out h
 exact hO.again st k' (fun _ _=>rfl) (hk _ _ hO.next)
theorem put_comm {st:St} {d d':Option Nat} {x y:SV} (h:∀k,d=some k->d'≠some k):(st.put d x).put d' y=(st.put d' y).put d x:=by
 cases d with
 | none=>rfl
 | some d=>
  cases d' with
  | none=>rfl
  | some d'=>
   have hne:d≠d':=fun e=>h d rfl (by rw [e])
   simp only [St.put]
   congr 1
   funext t
   by_cases e:t=d
   ·subst e; simp [Nat.beq_refl,beq_ne hne]
   ·simp [beq_ne e]
/-- Two guards change places. -/
theorem guard_swap {ops:Array Oper} {o1 o2:Oper} {st:St} {F:St->Bool->Bool->Prop} (h:vcG ops o1 st fun s w1=>vcG ops o2 s fun s' w2=>F s' w1 w2) :
  vcG ops o2 st fun s w2=>vcG ops o1 s fun s' w1=>F s' w1 w2:=by
 by_cases hsh:∃g,guardT ops o1=[g]/\guardT ops o2=[g]
 ·obtain ⟨g,e1,e2⟩:=hsh
  unfold guardT at e1 e2
  split at e1
  ·cases e1
  ·rename_i j1 b1 hg1
   split at e1
   ·rename_i g1 hd1
    cases e1
    split at e2
    ·cases e2
    ·rename_i j2 b2 hg2
     split at e2
     ·rename_i g2 hd2
      cases e2
      unfold vcG at h ⊢
      simp only [hg1,hg2,hd1,hd2] at h ⊢
      split at h
      ·rename_i hs; exact h
      ·rename_i hs; exact h
      ·rename_i c hs
       simp only [put_slots,if_true] at h ⊢
       exact h
      ·rename_i xs hs; exact h
      ·exact h.elim
     ·cases e2
   ·cases e1
 ·obtain ⟨p1,w1,h1⟩:=guard_out h
  obtain ⟨p2,w2,h2⟩:=guard_out h1.next
  have len1:∀o:Oper,guardT ops o=[] \/ ∃g,guardT ops o=[g]:=by
   intro o; unfold guardT
   split
   ·exact .inl rfl
   ·split
    ·exact .inr ⟨_,rfl⟩
    ·exact .inl rfl
  have hdj:∀t,t ∈ guardT ops o1->t ∉ guardT ops o2:=by
   intro t ht1 ht2
   rcases len1 o1 with e1 | ⟨g1,e1⟩
   ·rw [e1] at ht1; cases ht1
   ·rcases len1 o2 with e2 | ⟨g2,e2⟩
    ·rw [e2] at ht2; cases ht2
    ·rw [e1] at ht1; rw [e2] at ht2
     simp at ht1 ht2
     exact hsh ⟨t,by rw [e1,ht1],by rw [e2,ht2]⟩
  refine h2.again st _ (fun t ht=>?_) (h1.again _ _ (fun t ht=>?_) ?_)
  ·show st.slots t=(ov p1 none2 st).slots t
   simp [ov,h1.pd t (fun h=>hdj t h ht)]
  ·show (ov p2 none2 st).slots t=st.slots t
   simp [ov,h2.pd t (hdj t ht)]
  ·have e:ov p1 none2 (ov p2 none2 st)=ov p2 none2 (ov p1 none2 st):=ov_comm (fun t=>by
    by_cases ht:t ∈ guardT ops o1
    ·exact .inr (h2.pd t (hdj t ht))
    ·exact .inl (h1.pd t ht)) (fun _=>.inl rfl)
   show F (ov p1 none2 (ov p2 none2 st)) w1 w2
   rw [e]
   exact h2.next
theorem dst_mem {o:Oper} {k:Nat} (h:o.dst=some k):k ∈ dstL o:=by simp [dstL,h]
/-- Two operations change places. -/
theorem op_swap {ops:Array Oper} {m1 m2:CM} {h1 h2:Hint} {o1 o2:Oper} {st:St} {V:View} {K:St->View->Prop}
  (hi:indep LF RF ops h1 h2 o1 o2=true)
  (hm:quietC (clsOf LF RF o2.op)=true \/ (clsOf LF RF o2.op=.call/\m2=.none) \/ ((clsOf LF RF o2.op=.lcall/\m2=.lend) \/ (clsOf LF RF o2.op=.give/\m2=.give) \/ clsOf LF RF o2.op=.app))
  (hv:vcOp P T m1 h1 ops o1 st V fun st1 V1=>vcOp P T m2 h2 ops o2 st1 V1 K) :
  vcOp P T m2 h2 ops o2 st V fun st2 V2=>vcOp P T m1 h1 ops o1 st2 V2 K:=by
 unfold indep at hi
 simp only [Bool.and_eq_true] at hi
 obtain ⟨⟨⟨⟨⟨hq1,hd1⟩,hd2⟩,hg1⟩,hg2⟩,hrw⟩:=hi
 split at hrw
 ·rename_i R1 W1 R2 W2 hr1 hr2
  simp only [Bool.and_eq_true] at hrw
  obtain ⟨⟨hw12,hw21⟩,hww⟩:=hrw
  rw [disj_iff] at hd1 hd2 hg1 hg2 hw12 hw21 hww
  have hd12:∀k,o2.dst=some k->o1.dst≠some k:=fun k hk hk'=>hd1 k (dst_mem hk') (by simp [dst_mem hk])
  simp only [vcOp_eq] at hv ⊢
  have sa:vcG ops o1 st fun s w1=>vcG ops o2 s fun s' w2=>bodyW P T m1 h1 o1 V (fun s'' V''=>bodyW P T m2 h2 o2 V'' K s'' w2) s' w1:=by
   refine vcG_mono (fun s w1 hb=>?_) hv
   cases w1 with
   | true=>
    obtain ⟨p,q,hO⟩:=quiet_out hq1 hr1 hb
    obtain ⟨p2,w2,hG⟩:=guard_out hO.next
    refine hG.again s _ (fun t ht=>?_) ?_
    ·show s.slots t=(ov p q s).slots t
     simp [ov,hO.pd t (fun h=>hd1 t h (by simp [ht]))]
    ·refine hO.again _ V _ (View.Le.refl V) (fun t ht=>?_) (fun _ _=>rfl) ?_
     ·show (ov p2 none2 s).slots t=s.slots t
      simp [ov,hG.pd t (fun h=>hg2 t h ht)]
     ·rw [ov_comm (q2:=none2) _ (fun _=>.inr rfl)]
      ·exact hG.next
      ·intro t
       by_cases ht:t ∈ guardT ops o2
       ·exact .inl (hO.pd t (fun h=>hd1 t h (by simp [ht])))
       ·exact .inr (hG.pd t ht)
   | false=>
    simp only [bodyW] at hb
    obtain ⟨p2,w2,hG⟩:=guard_out hb
    have hp:∀k,o1.dst=some k->p2 k=none:=fun k hk=>hG.pd k (fun h=>hd1 k (dst_mem hk) (by simp [h]))
    refine hG.again s _ (fun t ht=>?_) ?_
    ·rw [put_ov]
     simp [ov,one_none (d:=o1.dst) (x:=undefS) (t:=t) (fun h=>hd1 t (dst_mem h) (by simp [ht]))]
    ·show bodyW P T m2 h2 o2 V K ((ov p2 none2 s).put o1.dst undefS) w2
     rw [ov_put hp]
     exact hG.next
  have sb:=guard_swap sa
  have sc:vcG ops o2 st fun s w2=>vcG ops o1 s fun s' w1=>bodyW P T m2 h2 o2 V (fun s'' V''=>bodyW P T m1 h1 o1 V'' K s'' w1) s' w2:=by
   refine vcG_mono (fun s w2 hb=>vcG_mono (fun s' w1 hb=>?_) hb) sb
   cases w1 with
   | true=>
    obtain ⟨p,q,hO⟩:=quiet_out hq1 hr1 hb
    cases w2 with
    | true=>
     refine body_over hm hr2 (fun t ht=>hO.pd t (fun h=>hd1 t h (by rcases ht with ht | ht <;> simp [ht]))) (fun s hs=>hO.qd s (fun h=>hw12 s h hs)) (fun s hs=>hO.qd s (fun h=>hww s h hs)) (fun s2 V2 hG=>?_) hO.next
     obtain ⟨g1,g2,g3,g4⟩:=hG
     exact hO.again s2 V2 K g1 (fun t ht=>g2 t (fun h=>hd2 t h (by simp [ht]))) (fun s hs=>g3 s (fun h=>hw21 s h hs)) g4
    | false=>
     refine hO.again _ V K (View.Le.refl V) (fun t ht=>?_) (fun s _=>by cases o2.dst <;> rfl) ?_
     ·rw [put_ov]
      simp [ov,one_none (d:=o2.dst) (x:=undefS) (t:=t) (fun h=>hd2 t (dst_mem h) (by simp [ht]))]
     ·have:=hO.next
      simp only [bodyW] at this
      rw [ov_put (fun k hk=>hO.pd k (fun h=>hd1 k h (by simp [dst_mem hk])))] at this
      exact this
   | false=>
    cases w2 with
    | true=>
     simp only [bodyW] at hb ⊢
     rw [put_ov] at hb
     refine body_over hm hr2 (fun t ht=>one_none (fun e=>hd1 t (dst_mem e) (by rcases ht with ht | ht <;> simp [ht]))) (fun s hs=>rfl) (fun s hs=>rfl) (fun s2 V2 hG=>?_) hb
     have:=hG.2.2.2
     rw [← put_ov] at this
     exact this
    | false=>
     simp only [bodyW] at hb ⊢
     rw [put_comm hd12]
     exact hb
  refine vcG_mono (fun s w2 hb=>?_) sc
  cases w2 with
  | true=>
   simp only [bodyW] at hb ⊢
   obtain ⟨p,w1,hG⟩:=guard_out hb
   refine body_over hm hr2 (fun t ht=>hG.pd t (fun h=>?_)) (fun _ _=>rfl) (fun _ _=>rfl) (fun s2 V2 hGd=>?_) hG.next
   ·rcases ht with ht | ht
    ·exact hg1 t h ht
    ·exact hd2 t ht (by simp [h])
   ·obtain ⟨g1,g2,g3,g4⟩:=hGd
    exact hG.again s2 _ (fun t ht=>g2 t (fun h=>hd2 t h (by simp [ht]))) g4
  | false=>
   simp only [bodyW] at hb ⊢
   obtain ⟨p,w1,hG⟩:=guard_out hb
   refine hG.again _ _ (fun t ht=>?_) ?_
   ·rw [put_ov]
    simp [ov,one_none (d:=o2.dst) (x:=undefS) (t:=t) (fun h=>hd2 t (dst_mem h) (by simp [ht]))]
   ·have:=hG.next
    rw [ov_put (fun k hk=>hG.pd k (fun h=>hd2 k (dst_mem hk) (by simp [h])))] at this
    exact this
 ·cases hrw
end Go.Eng
