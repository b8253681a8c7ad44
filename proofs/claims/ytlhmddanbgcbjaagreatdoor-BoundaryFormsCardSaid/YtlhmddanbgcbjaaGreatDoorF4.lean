import Derived.Test.YtlhmddanbgcbjaaGreatDoorF3
set_option linter.all false
open Go.IntKind (i64 u64 u32)
namespace Go.Eng
section
variable {P:Program} {T:eu} {n:Nat} {V0:Ó} {bQ:Lt} {β0:Nat->Nat} {st:St} {β:Nat->Nat} {a:Act} {w:World} {V:Ó}
def Mz {t:TypeId}{name:String}{f:FuncId}(h:My P t name=some f)(k:Nat)(v:un)(w:World):(Go.method (k+1) t v name).run P w=.ok (f,v) w:=by unfold My at h;split at h;{rename_i i d b c;split at h;{rename_i m hm;split at h;{rename_i j l e g;cases h;have a:m.path=#[]:=by{apply Ŋ;exact e};simp only [Go.method,typeInfo,Sem.run_bind,run_program,Result.andThen_ok,b,hm,Sem.run_pure,a,follow,g,receiverAt,ai c,Place.get]};{cases h}};{cases h}};{cases h}
def yi (hT:eu.ok P T)(hM:Ü n V0 bQ β0 st β a w V){m:CM}{o:Oper}{K:St->ut->Prop}{next:Act->World->Prop}{Q:Exit->Act->World->Prop}(hd:∀d,o.dst=some d->d<n)(hv:d_ P T m o st V K)(hK:∀st' β' a' w' V',Ü n V0 bQ β0 st' β' a' w' V'->K st' V'->next a' w'):o.wp P a w next Q:=by unfold d_ at hv;split at hv;{rename_i A args r e;split at hv;{rename_i xs g;have ⟨h,u⟩:=iB hM _ _ g;split at hv;{rename_i f i j;have ⟨k,l⟩:=Bu (Q:=Q) hM hd hv hK;have p:args.map a.eval=(xs.map (SV.den β)).toArray:=by{apply Ŋ;rw [Qf9];exact h};have q:aI β (xs++Bv i)=(xs.map (SV.den β)).toArray++(i.map λs=>Value.pointer (some ⟨β s,0,none⟩)).toArray:=by{unfold aI Bv;grind [SV.den,C.den]};have b:(execOp a.eval o).run P w=.ok (.enter f (aI β (xs++Bv i))) w:=by{rw [q];simp only [execOp,e,resolve,hM.eval j,SV.den,C.den,Deferred.ofValue,pure_bind,invoke,p,Array.empty_append];exact k.run _};unfold Oper.wp;rw [b];exact l};{exact hv.elim}};{exact hv.elim}};{rename_i recv name args r e;split at hv;{rename_i xs g;have ⟨h,u⟩:=iB hM _ _ g;split at hv;{rename_i t v j;split at hv;{rename_i f x;have ⟨k,l⟩:=Bu (Q:=Q) hM hd hv hK;have p:args.map a.eval=(xs.map (SV.den β)).toArray:=by{apply Ŋ;rw [Qf9];exact h};have q:aI β (.c (.w v)::xs)=#[v]++(xs.map (SV.den β)).toArray:=by{unfold aI;grind [SV.den,C.den]};have b:(execOp a.eval o).run P w=.ok (.enter f (aI β (.c (.w v)::xs))) w:=by{rw [q];have y:(#[Value.iface t v]++(xs.map (SV.den β)).toArray).extract 1 (#[Value.iface t v]++(xs.map (SV.den β)).toArray).size=(xs.map (SV.den β)).toArray:=χ;have z:(#[Value.iface t v]++(xs.map (SV.den β)).toArray)[0]?=some (Value.iface t v):=ψ;simp only [execOp,e,resolve,hM.eval j,SV.den,C.den,pure_bind,invoke,p,z,y,callMethod,Sem.run_bind,run_program,Result.andThen_ok,Made.depth];rw [Mz x];exact k.run _};unfold Oper.wp;rw [b];exact l};{exact hv.elim}};{exact hv.elim}};{exact hv.elim}};{grind [Km]}
theorem kX (hT:eu.ok P T)(hM:Ü n V0 bQ β0 st β a w V){m:CM}{h:û}{o:Oper}{K:St->ut->Prop}{next:Act->World->Prop}{Q:Exit->Act->World->Prop}(hd:∀d,o.dst=some d->d<n)(hv:dT P T m h o st V K)(hK:∀st' β' a' w' V',Ü n V0 bQ β0 st' β' a' w' V'->K st' V'->next a' w'):o.wp P a w next Q:=by unfold dT at hv;split at hv;{exact yi hT hM hd hv hK};{split at hv;{split at hv;{exact yi hT hM hd hv hK};{exact hv.elim}};{exact hv.elim}}
def Ü.refine (hM:Ü n V0 bQ β0 st β a w V){g:Nat}{x y:SV}(hx:st.ay g=some x)(he:x.den β=y.den β)(hy:y.ids=[]):Ü n V0 bQ β0 (st.put (some g) y) β a w V:=by refine ⟨hM.defers,hM.size,?_,?_,hM.DW,hM.boxes,hM.inj,hM.rS,hM.zy,hM.ext,hM.own,hM.n_,hM.mJ,hM.small⟩;{grind [eK,hM.ay]};{intro t z b;rw [eK] at b;split at b;{simp only [ý] at b;rw [<-b,hy];exact λs c=>(nomatch c)};{exact hM.DX t z b}}
def NH {ops:Array Oper}{tmps:Array un}{j g:Nat}(hg:(ops[j]?).bind (·.dst)=some g):yielded ops tmps j=match tmps.getD g undef with|.bool b=>some b|_=>none:=by unfold yielded;rw [hg];simp only [Option.bind_some];by_cases h:g<tmps.size;{have a:=getElem?_pos tmps g h;have c:tmps.getD g undef=tmps[g]:=by{simp [h]};grind};{simp [h,undef]}
def J_ (hT:eu.ok P T)(hM:Ü n V0 bQ β0 st β a w V){m:CM}{h:û}{ops:Array Oper}{o:Oper}{K:St->ut->Prop}{next:Act->World->Prop}{Q:Exit->Act->World->Prop}(hd:∀d,o.dst=some d->d<n)(hv:wc P T m h ops o st V K)(hK:∀st' β' a' w' V',Ü n V0 bQ β0 st' β' a' w' V'->K st' V'->next a' w'):if Region.wanted o (yielded ops a.tmps) then o.wp P a w next Q else next (a.put o.dst undef) w:=by unfold wc at hv;split at hv;{grind [Region.wanted,kX]};{rename_i j b u;split at hv;{exact hv.elim};{rename_i g p;have v:=NH (tmps:=a.tmps) p;have f:∀c:md,a.tmps.getD g undef=.bool c->(Region.wanted o (yielded ops a.tmps)=true↔c=b):=by{grind [Region.wanted]};have skip:∀{l:St},Ü n V0 bQ β0 l β a w V->K (l.put o.dst lQ) V->next (a.put o.dst undef) w:=by{intro l q r;exact hK _ _ _ _ _ (q.Ki hd rfl (cz rfl)) r};split at hv;{rename_i k;have i:=hM.ay g _ k;split at hv;{rw [Ä ((f true i).2 rfl)];exact kX hT hM hd hv hK};{rw [Ã (λh=>by have:=(f true i).1 h;cases this)];exact skip hM hv}};{rename_i k;have i:=hM.ay g _ k;split at hv;{rw [Ã (λh=>by have:=(f false i).1 h;cases this)];exact skip hM hv};{rw [Ä ((f false i).2 rfl)];exact kX hT hM hd hv hK}};{rename_i c k;have i:=hM.ay g _ k;have s:c=true->Ü n V0 bQ β0 (st.put (some g) (.c .tt)) β a w V:=λe=>hM.refine k (by rw [e];rfl) rfl;have t:c=false->Ü n V0 bQ β0 (st.put (some g) (.c .ff)) β a w V:=λe=>hM.refine k (by rw [e];rfl) rfl;split at hv;{(cases c with|true=>{rw [Ä ((f true i).2 rfl)];exact kX hT (s rfl) hd (hv.1 rfl) hK}|false=>{rw [Ã (λh=>by have:=(f false i).1 h;cases this)];exact skip (t rfl) (hv.2 rfl)})};{(cases c with|true=>{rw [Ã (λh=>by have:=(f true i).1 h;cases this)];exact skip (s rfl) (hv.1 rfl)}|false=>{rw [Ä ((f false i).2 rfl)];exact kX hT (t rfl) hd (hv.2 rfl) hK})}};{rename_i xs k;have i:=hM.ay g _ k;grind [Region.wanted,SV.den]};{exact hv.elim}}}
def F3 (hT:eu.ok P T){m:Nat->CM}{hint:Nat->û}{ops:Array Oper}(hd:∀(i:Nat)(o:Oper),ops[i]?=some o->∀d,o.dst=some d->d<n){Q:Exit->Act->World->Prop}{K:St->ut->Prop}(hK:∀st' β' a' w' V',Ü n V0 bQ β0 st' β' a' w' V'->K st' V'->Q .normal a' w'):∀(l:pz Nat)(st:St)(β:Nat->Nat)(a:Act)(w:World)(V:ut),Ü n V0 bQ β0 st β a w V->U0 P T m hint ops l st V K->wpOps P ops Q l a w
 | [],st,β,a,w,V,hM,hv=>hK _ _ _ _ _ hM hv
 | i::r,st,β,a,w,V,hM,hv=>by
  simp only [U0] at hv;simp only [wpOps];split at hv
  ·rename_i o ho;rw [ho];dsimp only;have:=J_ (Q:=Q) (next:=wpOps P ops Q r) hT hM (hd i o ho) hv (λst' β' a' w' V' b c=>F3 hT hd hK r st' β' a' w' V' b c);grind
  ·exact hv.elim
end
section
def ov (p:Nat->Option SV)(q:Nat->Option aX)(st:St):St:=
 ⟨λt=>match p t with|some x=>some x|none=>st.ay t,λt=>match q t with|some x=>some x|none=>st.boxes t⟩
theorem ij {a b:Nat}(h:a≠b):Nat.beq a b=false:=by cases hb:Nat.beq a b;{rfl};{exact Å (beq_eq.1 hb) h}
section
variable {p:Nat->Option SV} {q:Nat->Option aX} {st:St}
theorem lF {d:Option Nat}{x:SV}(h:∀k,d=some k->p k=none):(ov p q st).put d x=ov p q (st.put d x):=by (cases d with|none=>rfl|some d=>{have a:=h d rfl;simp only [ov,St.put];grind [ij]})
theorem oT {s:Nat}{b:aX}(h:q s=none):(ov p q st).box s b=ov p q (st.box s b):=by simp only [ov,St.box];grind [ij]
theorem cR {s:Nat}(h:q s=none):(ov p q st).boxes s=st.boxes s:=by simp [ov,h]
def Xe {x:Operand}(h:∀t,x=.tmp t->p t=none):(ov p q st).bG x=st.bG x:=by (cases x with|tmp t=>simp [St.bG,ov,h t rfl]|_=>rfl)
def one {α:Type}(d:Option Nat)(x:α):Nat->Option α:=λt=>match d with|some k=>cond (Nat.beq t k) (some x) none|none=>none
theorem e_ {α:Type}{d:Option Nat}{x:α}{t:Nat}(h:d≠some t):one d x t=none:=by cases d<;>grind [one,ij]
theorem gK (d:Option Nat)(x:SV):st.put d x=ov (one d x) (λ_=>none) st:=by (cases d with|none=>rfl|some d=>grind [ov,St.put,one])
theorem R0 (s:Nat)(b:aX):st.box s b=ov (λ_=>none) (one (some s) b) st:=by grind [ov,St.box,one]
def Fj (s:Nat)(b:aX)(d:Option Nat)(x:SV):(st.box s b).put d x=ov (one d x) (one (some s) b) st:=by rw [gK,R0];rfl
end
def fU {ρ ρ':Operand->Option SV}:∀l:pz Operand,(∀x∈l,ρ x=ρ' x)->dh ρ l=dh ρ' l
 | [],_=>rfl
 | o::r,h=>by simp only [dh];rw [h o ψ,fU r λx hx=>h x (by simp [hx])]
def mQ {ρ ρ':Operand->Option SV}:∀l:pz (Nat×Operand),(∀x∈l.map (·.2),ρ x=ρ' x)->ñ ρ l=ñ ρ' l
 | [],_=>rfl
 | (i,o)::r,h=>by simp only [ñ];rw [h o ψ,mQ r λx hx=>h x (by simp only [Ļ,å];exact .inr hx)]
theorem MF {ρ ρ':Operand->Option SV}:∀l:Option Operand,(∀x,l=some x->ρ x=ρ' x)->Hu ρ l=Hu ρ' l
 | none,_=>rfl
 | some o,h=>by simp only [Hu];rw [h o rfl]
def qG {T:eu}{ρ ρ':Operand->Option SV}{bx:Nat->Option aX}{op:Op}(h:∀x∈op.operands.toList,ρ x=ρ' x):aU T ρ bx op=aU T ρ' bx op:=by (cases op with|move x=>{simp only [aU];rw [h x (by simp [Op.operands])]}|assign x=>{simp only [aU];rw [h x (by simp [Op.operands])]}|pick c a b=>{simp only [aU];rw [h c (by simp [Op.operands]),h a (by simp [Op.operands]),h b (by simp [Op.operands])]}|box t x=>{simp only [aU];rw [h x (by simp [Op.operands])]}|build t ps=>{simp only [aU];rw [mQ _ λx g=>h x (by simpa [Op.operands] using g)]}|buildSlice t n ps=>{simp only [aU];rw [mQ _ λx g=>h x (by simpa [Op.operands] using g)]}|load t a=>{simp only [aU];rw [h a (by simp [Op.operands])]}|store t a x=>{simp only [aU];rw [h a (by simp [Op.operands]),h x (by simp [Op.operands])]}|nilCheck x=>{simp only [aU];rw [h x (by simp [Op.operands])]}|binOp o xt x y yt=>{simp only [aU];rw [h x (by simp [Op.operands]),h y (by simp [Op.operands])]}|unOp o xt x=>{cases o<;>simp only [aU]<;>rw [h x (by simp [Op.operands])]}|convert s d x=>{simp only [aU];rw [h x (by simp [Op.operands])]}|makeFunc fn first caps=>{(cases fn with|func f=>{simp only [aU];rw [fU _ λx g=>h x (by simp [Op.operands];exact .inr (by simpa using g))]}|_=>rfl)}|makeSlice t a b=>{simp only [aU];rw [h a (by simp [Op.operands]),h b (by simp [Op.operands])]}|slice t x lo hi mx=>{simp only [aU];grind [Op.operands,MF]}|fieldAddr t x f=>{simp only [aU];rw [h x (by simp [Op.operands])]}|field t x f=>{simp only [aU];rw [h x (by simp [Op.operands])]}|indexAddr t x i=>{simp only [aU];rw [h x (by simp [Op.operands]),h i (by simp [Op.operands])]}|extract x j=>{simp only [aU];rw [h x (by simp [Op.operands])]}|index t x i=>{simp only [aU];rw [h x (by simp [Op.operands]),h i (by simp [Op.operands])]}|makeInterface t x=>{simp only [aU];rw [h x (by simp [Op.operands])]}|call c=>{obtain ⟨k,args,l⟩:=c;(cases k with|builtin b=>{have e:dh ρ args.toList=dh ρ' args.toList:=fU _ λx g=>h x (by simpa [Op.operands,Call.operands] using g);cases b<;>simp only [aU]<;>rw [e]}|_=>rfl)}|_=>rfl)
def Uj {T:eu}{LF RF:pz Nat}{ρ:Operand->Option SV}{bx bx':Nat->Option aX}{op:Op}(h:bE LF RF op=.pure\/bE LF RF op=.alloc):aU T ρ bx op=aU T ρ bx' op:=by (cases op with|load t a=>{rcases h with h|h<;>cases h}|store t a x=>{rcases h with h|h<;>cases h}|unOp o xt x=>{cases o<;>rfl}|makeFunc fn first caps=>{cases fn<;>rfl}|call c=>{obtain ⟨d,args,e⟩:=c;(cases d with|builtin b=>{(cases b<;>first|rfl|(rcases h with h|h<;>cases h))}|_=>rfl)}|_=>rfl)
theorem Ul {bx bx':Nat->Option aX}{i:TI}{x:SV}(h:∀s∈x.ids,bx' s=bx s):lJ bx i x=lJ bx' i x:=by unfold lJ;grind [SV.ids,C.ids]
def QG {bx bx':Nat->Option aX}{i:TI}{x y:SV}(h:∀s∈x.ids,bx' s=bx s):jt bx i x y=jt bx' i x y:=by unfold jt;grind [SV.ids,C.ids]
def MO {bx:Nat->Option aX}{i:TI}{x y:SV}{sc:pz Prop}{s:Nat}{b:aX}(h:jt bx i x y=.zN sc s b):s∈x.ids:=by unfold jt at h;grind [SV.ids,C.ids]
def OE {V:ut}{p:Addr}:∀(cs:pz C) (i:Nat) {k:Prop},V.Xp p i cs k↔V.Xp p i cs True/\k
 | [],_,k=>by simp [Ó.Xp]
 | c::r,i,k=>by
  simp only [Ó.Xp];rw [OE r (i+1),and_assoc]
def Up {V V':ut}(h:V.Le V'){p:Addr}:∀(cs:pz C) (i:Nat) {k:Prop},V.Xp p i cs k->V'.Xp p i cs k
 | [],_,_,hk=>hk
 | c::r,i,_,hk=>⟨h.at hk.1,Up h r (i+1) hk.2⟩
def vD {V:ut}{p:OA}{x:SV}{k:Prop}:V.Xo p x k↔V.Xo p x True/\k:=by (cases x with|agg cs=>{simp only [Ó.Xo];constructor;{rintro ⟨a,c,b⟩;rw [OE] at b;exact ⟨⟨a,c,b.1⟩,b.2⟩};grind}|_=>grind [Ó.Xo])
def rdV_le {V V':ut}(h:V.Le V'){p:OA}{x:SV}{k:Prop}(hk:V.Xo p x k):V'.Xo p x k:=by (cases x with|c c=>{obtain ⟨⟨a,b,d⟩,e⟩:=hk;exact ⟨⟨a,b,h.at d⟩,e⟩}|agg cs=>{obtain ⟨a,b,d⟩:=hk;exact ⟨a,b,Up h _ _ d⟩}|wF xs=>exact hk)
def DR.split:∀(s:DR) {F:C->Prop},s.ex F->∃x,F x/\∀G:C->Prop,G x->s.ex G
 | .int _,_,⟨_,h⟩=>⟨_,h,λ_ g=>⟨_,g⟩⟩
 | .bool,_,⟨_,h⟩=>⟨_,h,λ_ g=>⟨_,g⟩⟩
 | .slice,_,⟨_,_,_,h⟩=>⟨_,h,λ_ g=>⟨_,_,_,g⟩⟩
 | .ptr,_,⟨_,h⟩=>⟨_,h,λ_ g=>⟨_,g⟩⟩
 | .str,_,⟨_,h⟩=>⟨_,h,λ_ g=>⟨_,g⟩⟩
 | .any,_,⟨_,h⟩=>⟨_,h,λ_ g=>⟨_,g⟩⟩
def rB:∀(l:pz DR) {F:pz C->Prop},ZD l F->∃x,F x/\∀G:pz C->Prop,G x->ZD l G
 | [],_,h=>⟨_,h,λ_ g=>g⟩
 | s::r,_,h=>by
  have ⟨c,h1,h2⟩:=DR.split s h;have ⟨cs,a,b⟩:=rB r h1;exact ⟨c::cs,a,λG g=>h2 _ (b _ g)⟩
def AX.split:∀(s:AX) {F:SV->Prop},s.ex F->∃x,F x/\∀G:SV->Prop,G x->s.ex G
 | .one s,_,h=>by have ⟨c,h1,h2⟩:=DR.split s h;exact ⟨.c c,h1,λG g=>h2 _ g⟩
 | .agg l,_,h=>by have ⟨c,h1,h2⟩:=rB l h;exact ⟨.agg c,h1,λG g=>h2 _ g⟩
def xk:∀(l:pz AX) {F:pz (md×pz C)->Prop},exT l F->∃x,F x/\∀G:pz (md×pz C)->Prop,G x->exT l G
 | [],_,h=>⟨_,h,λ_ g=>g⟩
 | .one s::r,_,h=>by
  have ⟨c,h1,h2⟩:=DR.split s h;have ⟨cs,a,b⟩:=xk r h1;exact ⟨_,a,λG g=>h2 _ (b _ g)⟩
 | .agg l::r,_,h=>by
  have ⟨c,h1,h2⟩:=rB l h;have ⟨cs,a,b⟩:=xk r h1;exact ⟨_,a,λG g=>h2 _ (b _ g)⟩
def Sh.split:∀(s:Sh) {F:SV->Prop},s.ex F->∃x,F x/\∀G:SV->Prop,G x->s.ex G
 | .val s,_,h=>AX.split s h
 | .wF l,_,h=>by have ⟨x,h1,h2⟩:=xk l h;exact ⟨_,h1,λG g=>h2 _ g⟩
 | .none,_,h=>⟨_,h,λ_ g=>g⟩
def Sh.s {s:Sh}{F G:SV->Prop}(h:s.ex F)(k:∀x,F x->G x):s.ex G:=by have ⟨x,a,b⟩:=s.split h;exact b G (k x a)
def CT {l m:pz Nat}:UQ l m=true↔∀x∈l,x∈m:=by simp only [UQ,ĩ,dX]
def Ce {op:Op}{x:Operand}(h:x∈op.operands.toList){t:Nat}(e:x=.tmp t):t∈kg op:=by subst e;exact List.mem_filterMap.2 ⟨_,h,rfl⟩
def rJ {st st2:St}{op:Op}(h:∀t∈kg op,st2.ay t=st.ay t){x:Operand}(hx:x∈op.operands.toList):st2.bG x=st.bG x:=by (cases x with|tmp t=>exact h t (Ce hx rfl)|_=>rfl)
def Cd {op:Op}{x:Operand}(h:x∈mO op):x∈op.operands.toList:=by unfold mO at h;grind [Op.operands,Call.operands]
def xI {ρ:Operand->Option SV}:∀{l:pz Operand} {xs:pz SV},dh ρ l=some xs->∀x∈l,∃v,ρ x=some v/\v∈xs
 | [],_,_,_,hx=>nomatch hx
 | o::r,xs,h,x,hx=>by
  simp only [dh] at h;split at h
  ·rename_i v l h1 h2;cases h;rcases å.1 hx with e|hx
   ·exact ⟨v,by rw [e];exact h1,ψ⟩
   ·have ⟨u,hu,hm⟩:=xI h2 x hx;grind
  ·cases h
structure ı (P:Program) (T:eu) (m:CM) (h:û) (o:Oper) (st:St) (V:Ó) (R W:List Nat) (K:St->Ó->Prop) (p:Nat->Option SV) (q:Nat->Option aX):Prop where
 pd:∀t,t∉fN o->p t=none
 qd:∀s,s∉W->q s=none
 next:K (ov p q st) V
 again:∀(st2:St)(V2:Ó)(K2:St->Ó->Prop),V.Le V2->(∀t∈kg o.op,st2.ay t=st.ay t)->(∀s∈R,st2.boxes s=st.boxes s)->K2 (ov p q st2) V2->dT P T m h o st2 V2 K2
variable {P:Program} {T:eu} {LF RF:List Nat} {m:CM}
def G8 {o:Oper}{t:Nat}(h:t∉fN o):o.dst≠some t:=by intro e;apply h;simp [fN,e]
def XO {o:Oper}{st:St}{V:ut}{K:St->ut->Prop}{R W:pz Nat}{Q0:Q}(hnew:∀sc b x,Q0=.new sc b x->fN o=W/\fN o=R)(hupd:∀sc s b,Q0=.zN sc s b->s∈W)(happ:eF Q0≠6)(hv:zO Q0 o.dst st V K):∃p q,(∀t,t∉fN o->p t=none)/\(∀s,s∉W->q s=none)/\K (ov p q st) V/\∀(st2:St)(V2:ut)(K2:St->ut->Prop),V.Le V2->(∀s∈R,st2.boxes s=st.boxes s)->K2 (ov p q st2) V2->zO Q0 o.dst st2 V2 K2:=by (cases Q0 with|fail=>exact hv.elim|ret sc x=>{obtain ⟨h,k⟩:=(fG sc _).1 hv;refine ⟨one o.dst x,λ_=>none,λt l=>e_ (G8 l),λ_ _=>rfl,by rw [<-gK];exact k,?_⟩;intro st2 V2 K2 _ _ m;exact (fG sc _).2 ⟨h,by rw [gK];exact m⟩}|new sc b x=>{have ⟨r,u⟩:=hnew _ _ _ rfl;simp only [zO] at hv ⊢;(cases hd:o.dst with|none=>{rw [hd] at hv;exact hv.elim}|some d=>{have n:fN o=[d]:=by{simp [fN,hd]};rw [hd] at hv;dsimp only at hv ⊢;split at hv;{rename_i v;obtain ⟨h,k⟩:=(fG sc _).1 hv;refine ⟨one (some d) (x d),one (some d) b,λt l=>e_ (by intro e;apply l;rw [n];simpa using e.symm),λs w=>e_ (by intro e;apply w;rw [<-r,n];simpa using e.symm),by rw [<-Fj];exact k,?_⟩;intro st2 V2 K2 _ y m;rw [y d (by rw [<-u,n];simp),v];exact (fG sc _).2 ⟨h,by rw [Fj];exact m⟩};{exact hv.elim}})}|zN sc s b=>{simp only [zO] at hv ⊢;(cases hd:o.dst with|some d=>{rw [hd] at hv;exact hv.elim}|none=>grind [fG,e_,R0])}|rd a sh=>{have ⟨x,h,k⟩:=sh.split hv;have ⟨z,A⟩:=vD.1 h;refine ⟨one o.dst x,λ_=>none,λt l=>e_ (G8 l),λ_ _=>rfl,by rw [<-gK];exact A,?_⟩;intro st2 V2 K2 hle _ m;exact k _ (vD.2 ⟨rdV_le hle z,by rw [gK];exact m⟩)}|sS vs of size sh=>{have ⟨x,h,k⟩:=sh.split hv;refine ⟨one o.dst x,λ_=>none,λt l=>e_ (G8 l),λ_ _=>rfl,by rw [<-gK];exact h.2,?_⟩;intro st2 V2 K2 hle _ m;exact k _ ⟨h.1,by rw [gK];exact m⟩}|app a b c d e f g i j=>exact Å rfl happ|xF a b c d e f g i=>exact Å rfl happ)
def CA {o:Oper}(h:qH (bE LF RF o.op)=true)(st:St)(V:ut)(K:St->ut->Prop):d_ P T m o st V K=zO (aU T st.bG st.boxes o.op) o.dst st V K:=by unfold d_;split;{rename_i f args b a;rw [a] at h;exfalso;(cases f with|func f=>{simp only [bE] at h;split at h;{split at h<;>cases h};{split at h;{cases h};{split at h<;>cases h}}}|_=>{cases h})};{rename_i recv name args b a;rw [a] at h;cases h};{rfl}
def ug {ρ:Operand->Option SV}{bx:Nat->Option aX}{op:Op}:eF (aU T ρ bx op)=2->bE LF RF op=.alloc:=by
 have gC:∀{q:Q} {X:Prop},eF q<=1->eF q=2->X:=by intro q X h h';omega
 unfold aU;split
 case h_8=>
  split
  ·intro h;rcases Gp (bx:=bx) with h'|h'|h'|h'<;>(rw [h'] at h;cases h)
  ·exact gC (â _)
 case h_9=>
  split
  ·intro h;rcases C6 (bx:=bx) with h'|h'<;>(rw [h'] at h;cases h)
  ·exact gC (â _)
 case h_11=>
  split
  ·split;{split;{exact gC vS};{exact gC (â _)}};{exact gC vS}
  ·exact gC (â _)
 case h_17=>exact λ_=>rfl
 case h_18=>
  split
  ·split;{split;{exact gC C5};{exact gC (â _)}};{exact gC (â _)}
  ·exact gC (â _)
 case h_21=>
  split
  ·exact gC qP
  ·exact gC (â _)
 case h_23 c=>
  split
  ·intro h;exfalso;split at h<;>(try split at h)<;>(try split at h)<;>(try split at h)<;>first|(rcases qO (bx:=bx) with h'|h'<;>(rw [h'] at h;cases h))|cases h
  ·split;{intro h;rcases C0 (T:=T) (bx:=bx) with h'|h'<;>(rw [h'] at h;cases h)};{exact gC (â _)}
  ·split;{split;{exact gC vT};{exact gC (â _)}};{exact gC (â _)}
  ·exact gC (â _)
 all_goals
  first
  | exact λ_=>rfl
  | exact gC (â _)
  | ((repeat' split)<;>first|exact gC (â _)|exact gC (Ù _)|exact gC sW|(unfold Cy;(repeat' split)<;>first|exact gC (â _)|exact gC (Ù _)))
def FU {st st2:St}{op:Op}(h:∀t∈kg op,st2.ay t=st.ay t):dh st2.bG (mO op)=dh st.bG (mO op):=
 fU _ λ_ a=>rJ h (Cd a)
def rM {h:û}{o:Oper}{st:St}{V:ut}{K:St->ut->Prop}{R W:pz Nat}(hq:qH (bE LF RF o.op)=true)(hrw:vL (bE LF RF o.op) h (fN o)=some (R,W))(hv:dT P T m h o st V K):∃p q,ı P T m h o st V R W K p q:=by
 have core:(∀g:St,(∀t∈kg o.op,g.ay t=st.ay t)->(∀s∈R,g.boxes s=st.boxes s)->aU T g.bG g.boxes o.op=aU T st.bG st.boxes o.op) ->
   (∀C b x,aU T st.bG st.boxes o.op=.new C b x->fN o=W/\fN o=R)->(∀C s b,aU T st.bG st.boxes o.op=.zN C s b->s∈W) ->
   (∀(g:St)(V2:ut)(D:St->ut->Prop),(∀t∈kg o.op,g.ay t=st.ay t)->d_ P T m o g V2 D->dT P T m h o g V2 D) ->
   d_ P T m o st V K->∃p q,ı P T m h o st V R W K p q:=by
  intro he Q hu B hv;rw [CA hq] at hv
  have ⟨p,q,S,U,X,Y⟩:=XO (R:=R) (W:=W) Q hu (λn=>by
   obtain ⟨Z,d,E⟩:=(iC (T:=T) (ρ:=st.bG) (bx:=st.boxes) (op:=o.op)).2.2 n;rw [d] at hq;obtain ⟨F,args,J⟩:=Z;dsimp only at E;subst E;cases hq) hv
  refine ⟨p,q,S,U,X,λg V2 D hle G H hK=>?_⟩;refine B g V2 D G ?_;rw [CA hq,he g G H];exact Y g V2 D hle H hK
 have L:bE LF RF o.op=.pure\/bE LF RF o.op=.alloc->h=.free->(bE LF RF o.op=.alloc->R=fN o/\W=fN o)->∃p q,ı P T m h o st V R W K p q:=by intro j hf hd;subst hf;refine core (λg z _=>?_) (λC b x n=>?_) (λC s b n=>?_) (λ_ _ _ _ B=>B) hv;{rw [Uj (bx':=st.boxes) j];exact qG λx I=>rJ z I};{have:=hd (ug (by rw [n];rfl));exact ⟨this.2.symm,this.1.symm⟩};{rcases (iC (T:=T) (ρ:=st.bG) (bx:=st.boxes) (op:=o.op)).1 (by rw [n];rfl) with ⟨t,y,x,d⟩|⟨⟨F,args,J⟩,d,E⟩;{rw [d] at j;rcases j with j|j<;>cases j};{dsimp only at E;subst E;rw [d] at j;rcases j with j|j<;>cases j}}
 generalize j:bE LF RF o.op=c at hrw hq L
 cases c with
 | pure=>
  cases h with
  | free=>exact L (.inl rfl) rfl ţ
  | own l=>cases hrw
 | alloc=>
  cases h with
  | free=>
   simp only [vL,ý,ő] at hrw;exact L (.inr rfl) rfl (λ_=>⟨hrw.1.symm,hrw.2.symm⟩)
  | own l=>cases hrw
 | load=>
  cases h with
  | free=>cases hrw
  | own l=>
   simp only [vL,ý,ő] at hrw;obtain ⟨rfl,rfl⟩:=hrw
   have d:∃t a,o.op=.load t a:=by
    generalize o.op=op at j
    cases op with
    | load t a=>exact ⟨t,a,rfl⟩
    | call c=>obtain ⟨F,args,J⟩:=c;cases F with
     | builtin b=>cases b<;>cases j
     | value f=>cases f with
      | func f=>simp only [bE] at j;split at j<;>(try split at j)<;>(try split at j)<;>(try split at j)<;>cases j
      | _=>cases j
     | _=>cases j
    | _=>cases j
   obtain ⟨t,a,d⟩:=d;unfold dT at hv;dsimp only at hv;split at hv
   ·rename_i xs r;split at hv;{rename_i k;have M:∀v,st.bG a=some v->∀s∈v.ids,s∈l:=by{intro v uA s z;rw [CT] at k;apply k;rw [d] at r;have ⟨u,hu,hm⟩:=xI r a (by simp [mO]);rw [d];simp only [hU];grind};refine core (λg z B=>?_) (λC b x n=>?_) (λC s b n=>?_) (λg V2 D z B=>?_) hv;{rw [d] at z ⊢;rw [qG (ρ':=st.bG) λx I=>rJ z I];simp only [aU];grind [Ul]};{have:=ug (LF:=LF) (RF:=RF) (op:=o.op) (T:=T) (ρ:=st.bG) (bx:=st.boxes) (by rw [n];rfl);rw [d] at this;cases this};{rcases (iC (T:=T) (ρ:=st.bG) (bx:=st.boxes) (op:=o.op)).1 (by rw [n];rfl) with ⟨t,y,x,A⟩|⟨c,A,-⟩<;>(rw [d] at A;cases A)};{unfold dT;dsimp only;rw [FU z,r];dsimp only;have:hU g.boxes o.op (xs.flatMap SV.ids)=hU st.boxes o.op (xs.flatMap SV.ids):=by{rw [d];rfl};rw [this,k];exact B}};{exact hv.elim}
   ·exact hv.elim
 | store=>
  cases h with
  | free=>cases hrw
  | own l=>
   simp only [vL,ý,ő] at hrw;obtain ⟨rfl,rfl⟩:=hrw
   have d:∃t a x,o.op=.store t a x:=by
    generalize o.op=op at j
    cases op with
    | store t a x=>exact ⟨t,a,x,rfl⟩
    | call c=>obtain ⟨F,args,J⟩:=c;cases F with
     | builtin b=>cases b<;>cases j
     | value f=>cases f with
      | func f=>simp only [bE] at j;split at j<;>(try split at j)<;>(try split at j)<;>(try split at j)<;>cases j
      | _=>cases j
     | _=>cases j
    | _=>cases j
   obtain ⟨t,a,y,d⟩:=d;unfold dT at hv;dsimp only at hv;split at hv
   ·rename_i xs r;split at hv;{rename_i k;have M:∀v,st.bG a=some v->∀s∈v.ids,s∈l:=by{intro v uA s z;rw [CT] at k;apply k;rw [d] at r;have ⟨u,hu,hm⟩:=xI r a (by simp [mO]);rw [d];simp only [hU];grind};refine core (λg z B=>?_) (λC b x n=>?_) (λC s b n=>?_) (λg V2 D z B=>?_) hv;{rw [d] at z ⊢;rw [qG (ρ':=st.bG) λx I=>rJ z I];simp only [aU];split;{rename_i i v w hi N hw;exact (QG λs O=>B s (M v N s O)).symm};{rfl}};{have:=ug (LF:=LF) (RF:=RF) (op:=o.op) (T:=T) (ρ:=st.bG) (bx:=st.boxes) (by rw [n];rfl);rw [d] at this;cases this};{rw [d] at n;simp only [aU] at n;split at n;{rename_i i v w hi N hw;exact M v N s (MO n)};{cases n}};{unfold dT;dsimp only;rw [FU z,r];dsimp only;have:hU g.boxes o.op (xs.flatMap SV.ids)=hU st.boxes o.op (xs.flatMap SV.ids):=by{rw [d];rfl};rw [this,k];exact B}};{exact hv.elim}
   ·exact hv.elim
 | _=>cases hq
end
section
variable {P:Program} {T:eu} {LF RF:List Nat} {m:CM}
def š (p:Nat->Option SV)(q:Nat->Option aX)(W D:List Nat)(st:St)(V:Ó)(K:St->Ó->Prop):St->Ó->Prop:=
 λst2 V2=>V.Le V2/\(∀t,t∉D->st2.ay t=st.ay t)/\(∀s,s∉W->st2.boxes s=st.boxes s)/\K (ov p q st2) V2
def uG {bx bx':Nat->Option aX}:∀{l:pz Nat},(∀s∈l,bx' s=bx s)->l.flatMap (oa bx')=l.flatMap (oa bx)
 | [],_=>rfl
 | s::r,h=>by
  simp only [Ď];rw [uG λs hs=>h s (by simp [hs])];simp only [oa];rw [h s ψ]
def qI {bx bx':Nat->Option aX}:∀(n:Nat)(l:pz Nat),(∀s∈ì bx n l,bx' s=bx s)->ì bx' n l=ì bx n l
 | 0,_,_=>rfl
 | n+1,l,h=>by
  have hl:∀s∈l,bx' s=bx s:=λs a=>h s (gF (n+1) l s a);simp only [ì] at h ⊢;rw [uG hl];exact qI n _ h
def Eb {bx bx':Nat->Option aX}{l:pz Nat}(h:∀s∈l,bx' s=bx s):jG bx' l=jG bx l:=by unfold jG;rw [Ģ,ĩ,ĩ];constructor;{intro g s a;have:=g s a;simp only [oa] at this ⊢;rw [h s a] at this;exact this};{intro g s a;have:=g s a;simp only [oa] at this ⊢;rw [h s a];exact this}
def fl:∀{L:pz Nat} {β:Nat->Nat} {k k':(Nat->Nat)->Prop},(∀β,k β->k' β)->nf L β k->nf L β k'
 | [],_,_,_,h,g=>h _ g
 | _::_,_,_,_,h,g=>λb=>fl h (g b)
def Ck {bx bx':Nat->Option aX}{b:aX}{β:Nat->Nat}{s:Nat}:∀{r:pz Nat} {k k':Prop},(∀t∈r,bx' t=bx t)->(k->k')->YP bx b β s r k->YP bx' b β s r k'
 | [],_,_,_,h,g=>h g
 | t::r,k,k',hb,h,g=>by
  have hr:=λt a=>hb t (ó _ a);simp only [YP] at g ⊢;rw [hb t ψ]
  cases hbq:Nat.beq s t with
  | true=>rw [hbq] at g;exact Ck hr h g
  | false=>
   rw [hbq] at g;simp only [cond_false] at g ⊢;split at g
   ·exact λc=>Ck hr h (g c)
   ·exact g
def lB {bx bx':Nat->Option aX}{β:Nat->Nat}{V:ut}:∀{L:pz Nat} {k k':Prop},(∀s∈L,bx' s=bx s)->((∀s∈L,∃b,bx s=some b/\(b.live->V.H (β s)))->k->k')->kn bx β V L k->kn bx' β V L k'
 | [],_,_,_,h,g=>h (λs hs=>Å hs ψ) g
 | s::r,k,k',hb,h,g=>by
  have hr:=λt a=>hb t (ó _ a);simp only [kn] at g ⊢;rw [hb s ψ];split at g
  ·rename_i b c;refine λd e=>lB hr (λi=>Ck hr (λf=>h (λt a=>?_) f)) (g d e)<;>grind [kH.1]
  ·exact g
def mz {mv:Option (Nat×Nat)}:∀{cs zs:pz C} {K K':pz C->Prop},(∀c,K c->K' c)->oJ mv cs zs K->oJ mv cs zs K'
 | [],_,_,_,h,g=>h _ g
 | _::_,[],_,_,_,g=>g.elim
 | c::r,z::zr,K,K',h,g=>by
  simp only [oJ] at g ⊢;split at g
  ·split at g
   ·split at g
    ·obtain ⟨n,c,g⟩:=g;exact ⟨n,c,mz (λcs a=>h _ a) g⟩
    ·exact g.elim
   ·exact g.elim
  ·split at g
   ·have ⟨v,b,d⟩:=DR.split _ g;rename_i e;rw [e] at *;exact d _ (mz (λcs a=>h _ a) b)
   ·exact mz (λcs a=>h _ a) g
variable {p:Nat->Option SV} {q:Nat->Option aX}
def mB {mv:Option (Nat×Nat)}{β:Nat->Nat}{V:ut}{W:pz Nat}:∀{L:pz Nat} {st:St} {k k':St->Prop},(∀s∈L,q s=none/\s∈W) ->(∀st',(∀t,st'.ay t=st.ay t)->(∀s,s∉W->st'.boxes s=st.boxes s)->k (ov p q st')->k' st')->fQ T mv β V L (ov p q st) k->fQ T mv β V L st k'
 | [],st,k,k',_,h,g=>h st (λ_=>rfl) (λ_ _=>rfl) g
 | s::r,st,k,k',hq,h,g=>by
  have ⟨hqs,hsW⟩:=hq s ψ;have f:∀s∈r,q s=none/\s∈W:=λs j=>hq s (by simp [j])
  have a:∀b:aX,∀d:St->Prop,(∀st',d st'=k st')->fQ T mv β V r ((ov p q st).box s b) d->fQ T mv β V r (st.box s b) k':=by
   intro b d e g;rw [oT hqs] at g;refine mB f (λst' l o c=>h st' l (λu m=>?_) (by rw [<-e];exact c)) g<;>grind [aj]
  simp only [fQ] at g ⊢;rw [cR hqs] at g;split at g
  ·rename_i cs ty v;split at g;{rename_i i w;exact mz (λn c=>⟨c.1,a _ _ (λ_=>rfl) c.2⟩) g};{exact g}
  ·grind
  ·grind
  ·exact g
def AB (V:ut)(l:pz Nat):V.Le (V.aq l):=λ_ _ h=>h
def Oh (V:ut):V.Le V.shut:=λ_ _ h=>h
def vo {V V' fF:ut}{P:Prop}{b:Nat}(h:V.Le fF)(h':V.Le V')(hb:P->V'.w.heap.size<=b\/V'.H b):V.Le (fF.shut.aW P b):=by intro x o c;have ⟨d,f⟩:=h x o c;have ⟨g,i⟩:=h' x o c;refine ⟨λa=>?_,f⟩;rcases a with a|⟨j,e,-⟩;{exact d a};grind
def TO {m:Option Nat}{d:Nat}:gT m d=d\/gT m d=d+200000:=by (cases m with|none=>exact .inl rfl|some m=>{simp only [gT,sQ];grind})
def oP {give:md}{sh:Sh}{L:pz Nat}{mm:Option Nat}{d:Nat}{ety:TypeId}{β:Nat->Nat}{st:St}{V V' fF:ut}{K K':St->ut->Prop}{W D:pz Nat}{r':un}(hL:∀s∈L,q s=none/\s∈W)(hm:∀k,mm=some k->k∈L)(hp:p d=none/\d∈D)(hq:q (gT mm d)=none/\gT mm d∈W)(hV:V.Le V')(hV2:V.Le fF)(hlv:∀s∈L,∃b,st.boxes s=some b/\(b.live->V'.H (β s)))(hK:∀s2 V2,š p q W D st V K s2 V2->K' s2 V2)(h:cN T give sh L mm d ety β (ov p q st) V' K r' fF):cN T give sh L mm d ety β st V' K' r' fF:=by unfold cN at h ⊢;obtain ⟨g,a,u,v,y⟩:=h;have i:a≠[]->V'.w.heap.size<=g\/DI mm st β g:=by{intro c;refine (v c).imp id λh=>?_;unfold DI at h ⊢;grind [cR]};have z:a≠[]->V'.w.heap.size<=g\/V'.H g:=by{intro c;refine (i c).imp id λh=>?_;unfold DI at h;(cases mm with|none=>exact h.elim|some k=>{dsimp only at h;have ⟨A,n,B⟩:=hlv k (hm k rfl);rw [n] at h;obtain ⟨cs,ty⟩:=A;cases cs<;>grind [dP,dQ,gE]})};refine ⟨g,a,u,i,Sh.s y λx r=>⟨r.1,?_⟩⟩;have C:(vg mm ety (ov p q st)).box (gT mm d) ⟨.aB a,ety⟩=ov p q ((vg mm ety st).box (gT mm d) ⟨.aB a,ety⟩):=by{(cases mm with|none=>exact oT hq.1|some k=>{simp only [vg];grind [oT]})};have j:=r.2;rw [C] at j;have l:∀s∈JQ mm L,q s=none/\s∈W:=by{intro s f;(cases mm with|none=>exact hL s f|some k=>exact hL s (Cf.1 f).1)};refine mB l (λo E F m=>?_) j;rw [lF (λk m=>by cases m;exact hp.1)] at m;refine hK _ _ ⟨vo hV2 hV z,?_,?_,m⟩;{intro t G;rw [eK,Ã (λe=>G (by rw [e];exact hp.2)),E];cases mm<;>rfl};{intro s f;show o.boxes s=_;rw [F s f,aj,Ã (λe=>f (by rw [e];exact hq.2))];(cases mm with|none=>rfl|some k=>{simp only [vg];rw [aj,Ã (λe=>f (by rw [e];exact (hL k (hm k rfl)).2))]})}
theorem TG {bx:Nat->Option aX}{L:pz Nat}(hcl:jG bx L=true):∀k,k∈vy bx L->k∈L:=by
 intro k a;unfold vy at a;have ⟨s,b,a⟩:=Đ.1 (cB.1 a);split at a
 ·rename_i cs ty d;refine fM hcl b d k ?_
  have:∀cs:pz C,k∈tV cs->k∈cs.flatMap C.ids:=by
   intro cs
   induction cs with
   | nil=>exact λh=>nomatch h
   | cons c r ih=>
    intro h;rw [Ď,õ]
    cases c<;>simp only [tV,å] at h<;>first
     | exact .inr (ih h)
     | (rcases h with h|h
        ·left;simp [C.ids,h]
        ·exact .inr (ih h))
  exact this cs a
 ·cases a
theorem BK {xs:pz SV}:∀k,k∈oM xs->k∈xs.flatMap SV.ids:=by
 intro k
 induction xs with
 | nil=>exact λh=>nomatch h
 | cons x r ih=>
  intro h;rw [Ď,õ];unfold oM at h;split at h
  ·rename_i heq;cases heq
  ·rename_i s n c a heq;cases heq;exact .inl h
  ·rename_i s n c a heq;cases heq;exact .inl h
  grind
def yK {bx bx':Nat->Option aX}{L:pz Nat}(h:∀s∈L,bx' s=bx s):vy bx' L=vy bx L:=by
 unfold vy;congr 1
 induction L<;>grind
def iR {st:St}{mm:Option Nat}{d:Nat}(h:q (gT mm d)=none):lD (ov p q st) mm d=lD st mm d:=by unfold lD;rw [cR h]
def yH {bx bx':Nat->Option aX}{β:Nat->Nat}{N:Nat}{L:pz Nat}(h:∀s∈L,bx' s=bx s):L.map (eQ bx' β N)=L.map (eQ bx β N):=
 Ŗ λs a=>by unfold eQ;rw [h s a]
def DH:∀{L:pz Nat} {st:St},(∀s∈L,q s=none)->eE (ov p q st) L 0=ov p q (eE st L 0)
 | [],_,_=>rfl
 | s::r,st,h=>by
  show eE ((ov p q st).box s ⟨.aB [],0⟩) r 0=ov p q (eE (st.box s ⟨.aB [],0⟩) r 0);rw [oT (h s ψ)];exact DH λs hs=>h s (by simp [hs])
def xK {bx bx':Nat->Option aX}{β:Nat->Nat}{V:ut}:∀{L:pz Nat} {k k':Prop},(∀s∈L,bx' s=bx s)->(k->k')->tX bx β V L k->tX bx' β V L k'
 | [],_,_,_,h,g=>h g
 | s::r,k,k',hb,h,g=>by
  simp only [tX] at g ⊢;rw [hb s ψ];split at g
  ·exact λh1=>xK (λt ht=>hb t (ó _ ht)) h (g h1)
  ·exact g.elim
def kN {f:FuncId}{xs:pz SV}{ty:TypeId}{dst:Option Nat}{st:St}{V:ut}{K:St->ut->Prop}{W D:pz Nat}(hm:m=.none\/((m=.aq\/m=.give)/\(∀s∈ì (ov p q st).boxes 3 (ð (xs.flatMap SV.ids)),q s=none/\s∈W)/\∀k,dst=some k->∀mm,q (gT mm k)=none/\gT mm k∈W))(hd:∀k,dst=some k->p k=none/\k∈D){K':St->ut->Prop}(hK:∀s2 V2,š p q W D st V K s2 V2->K' s2 V2)(hv:h_ P T m f xs ty dst (ov p q st) V K):h_ P T m f xs ty dst st V K':=by
 have A:∀(n:St)(x:SV),(∀t,n.ay t=st.ay t)->∀t,t∉D->(n.put dst x).ay t=st.ay t:=by intro n x h t c;(cases dst with|none=>exact h t|some d=>{rw [eK,Ã (λe=>c (by rw [e];exact (hd d rfl).2))];exact h t})
 have G:∀(n:St)(x:SV),(n.put dst x).boxes=n.boxes:=by intro n x;cases dst<;>rfl
 unfold h_ at hv ⊢;split at hv
 ·exact hv.elim
 ·rename_i S a2
  have H:∀L,ì (ov p q st).boxes 3 (ð (xs.flatMap SV.ids))=L->(∀s∈L,q s=none)->ì st.boxes 3 (ð (xs.flatMap SV.ids))=L:=by intro L hL X;rw [<-hL];exact qI 3 _ λs y=>(cR (X s (by rw [<-hL];exact y))).symm
  have YA:∀s∈xs.flatMap SV.ids,s∈ì (ov p q st).boxes 3 (ð (xs.flatMap SV.ids)):=λs y=>gF 3 _ s (cB.2 y);generalize hr:ì (ov p q st).boxes 3 (ð (xs.flatMap SV.ids))=L at hv hm YA
  cases L with
  | nil=>
   rw [H _ hr (λs y=>nomatch y)]
   have plain:(∀g:ut,V.Le g->aa P f (aI (λ_=>0) xs) g λr B=>S.ex λx=>r=x.den (λ_=>0)/\K ((ov p q st).put dst x) B) ->
     ∀g:ut,V.Le g->aa P f (aI (λ_=>0) xs) g λr B=>S.ex λx=>r=x.den (λ_=>0)/\K' (st.put dst x) B:=by
    intro hv g b;refine (hv g b).s λr B hle l=>Sh.s l λx C=>⟨C.1,?_⟩;have z:=C.2;rw [lF (λk l=>(hd k l).1)] at z;exact hK _ _ ⟨b.m hle,A st x λ_=>rfl,λs _=>by rw [G],z⟩
   rcases hm with rfl|⟨rfl|rfl,-,i⟩
   ·exact plain hv
   ·exact plain hv
   ·dsimp only at hv ⊢;split at hv;{rename_i d o a3;rw [iR (i d rfl Option.none).1] at hv;split at hv;{exact hv.elim};{rename_i u;intro g b;refine (hv g b).s λr B hle l=>?_;exact oP (W:=W) (D:=D) (λs y=>Å y ψ) (λk l=>by cases l) (hd d rfl) (i d rfl Option.none) b (b.m hle) (λs y=>Å y ψ) hK l}};{exact plain hv};{exact hv.elim}
  | cons s r=>
   dsimp only at hv;split at hv
   ·exact hv.elim
   ·rename_i J
    have aq:m=.aq\/m=.give->(∀t∈s::r,q t=none/\t∈W)->(∀k,dst=some k->∀mm,q (gT mm k)=none/\gT mm k∈W) ->
      ∀{give:md} {mm:Option Nat} {d:Nat} {o:TypeId},dst=some d->(∀k,mm=some k->k∈s::r) ->
      (∀g:ut,V.Le g->nf (s::r) (λ_=>0) λβ=>kn (ov p q st).boxes β g (s::r) (aa P f (aI β xs) (g.aq ((s::r).map (eQ (ov p q st).boxes β g.w.heap.size))) (cN T give S (s::r) mm d o β (ov p q st) g K))) ->
      ∀g:ut,V.Le g->nf (s::r) (λ_=>0) λβ=>kn st.boxes β g (s::r) (aa P f (aI β xs) (g.aq ((s::r).map (eQ st.boxes β g.w.heap.size))) (cN T give S (s::r) mm d o β st g K')):=by
     intro _ a i give mm d o E M hv g b;have F:∀t∈s::r,st.boxes t=(ov p q st).boxes t:=λt c=>(cR (a t c).1).symm;refine fl (λβ I=>?_) (hv g b);rw [yH (bx:=(ov p q st).boxes) F];refine lB (bx:=(ov p q st).boxes) F (λhH v=>?_) I;refine v.s λY B hle l=>?_;exact oP a M (hd d E) (i d E mm) b ((b.m (AB g _)).m hle) (λt c=>by rw [F t c];exact hH t c) hK l
    have base:m=.aq\/m=.give->(∀t∈s::r,q t=none/\t∈W)/\(∀k,dst=some k->∀mm,q (gT mm k)=none/\gT mm k∈W):=by intro h;rcases hm with rfl|⟨-,N,z⟩;{rcases h with h|h<;>cases h};{exact ⟨N,z⟩}
    have O:(∀t∈s::r,q t=none/\t∈W)->jG st.boxes (s::r)=true:=λa=>by rw [Eb (bx:=(ov p q st).boxes) (λt c=>(cR (a t c).1).symm)];exact J
    split at hv
    ·exact hv.elim
    ·exact hv.elim
    ·have ⟨a,i⟩:=base (.inr rfl);rw [H _ hr (λt c=>(a t c).1)];dsimp only;rw [O a];dsimp only;have Z:=yK (bx:=(ov p q st).boxes) (bx':=st.boxes) (L:=s::r) (λt c=>(cR (a t c).1).symm);rw [Z];split at hv;{rename_i d o N z h3;rw [iR (i d rfl _).1] at hv;split at hv;{exact hv.elim};{rename_i u;exact aq (.inr rfl) a i rfl (λk l=>by cases l) hv}};{rename_i d o k N z h3;have Q:=YA k (BK k (by rw [z];simp));have a0:HO (ov p q st).boxes k o=HO st.boxes k o:=by{unfold HO;rw [cR (a k Q).1]};rw [a0] at hv;split at hv;{rw [iR (i d rfl _).1] at hv;split at hv;{exact hv.elim};{rename_i u;exact aq (.inr rfl) a i rfl (λj hj=>by cases hj;exact Q) hv}};{rw [DH (λt c=>(a t c).1),iR (i d rfl _).1] at hv;split at hv;{exact hv.elim};{rename_i u;split at hv;{exact hv.elim};{intro g b;refine fl (λβ I=>?_) (hv g b);refine xK (bx:=(ov p q st).boxes) (λt c=>(cR (a t c).1).symm) (λv=>?_) I;refine v.s λY B hle l=>?_;exact oP (W:=W) (D:=D) (st:=eE st (s::r) 0) (λs y=>Å y ψ) (λk l=>by cases l) (hd d rfl) (i d rfl Option.none) b (b.m hle) (λs y=>Å y ψ) (λs2 V2 U=>hK s2 V2 ⟨U.1,λt c=>(U.2.1 t c).m (by rw [jY]),λt c=>(U.2.2.1 t c).m (by rw [bq,Ã λh=>c (a t h).2]),U.2.2.2⟩) l}}}};{split at hv;{exact hv.elim};{rw [DH (λt c=>(a t c).1)] at hv;intro g b;refine fl (λβ I=>?_) (hv g b);refine xK (bx:=(ov p q st).boxes) (λt c=>(cR (a t c).1).symm) (λv=>?_) I;refine v.s λY B hle l=>Sh.s l λx C=>⟨C.1,?_⟩;have z:=C.2;rw [lF (λk l=>(hd k l).1)] at z;exact hK _ _ ⟨b.m hle,A (eE st (s::r) 0) x λt=>by rw [jY],λt c=>by rw [G,bq,Ã λh=>c (a t h).2],z⟩}};{exact hv.elim}
    ·have ⟨a,i⟩:=base (.inl rfl);rw [H _ hr (λt c=>(a t c).1)];dsimp only;rw [O a];dsimp only;have F:∀t∈s::r,st.boxes t=(ov p q st).boxes t:=λt c=>(cR (a t c).1).symm;rw [(yK (bx:=(ov p q st).boxes) (bx':=st.boxes) (L:=s::r) F)];split at hv;{intro g b;refine fl (λβ I=>?_) (hv g b);rw [yH (bx:=(ov p q st).boxes) F];refine lB (bx:=(ov p q st).boxes) F (λ_ v=>?_) I;refine v.s λY B hle l=>Sh.s l λx C=>⟨C.1,?_⟩;refine mB a (λn N z l=>?_) C.2;rw [lF (λk l=>(hd k l).1)] at l;exact hK _ _ ⟨((b.m (AB g _)).m hle).m (Oh _),A n x N,λt c=>by rw [G];exact z t c,l⟩};{rename_i k l;have R:=TG J k (by rw [l];simp);have a1:nh st.boxes k=nh (ov p q st).boxes k:=by{unfold nh;rw [F k R]};rw [a1];split at hv;{rename_i d o a4;rw [iR (i d rfl _).1] at hv;split at hv;{exact hv.elim};{rename_i u;exact aq (.inl rfl) a i rfl (λj hj=>by cases hj;exact R) hv}};{exact hv.elim}};{exact hv.elim}
    grind
def Kq {bx:Nat->Option aX}:∀(n:Nat) {l l':pz Nat},(∀x∈l,x∈l')->∀x∈ì bx n l,x∈ì bx n l'
 | 0,_,_,h,x,hx=>h x hx
 | n+1,l,l',h,x,hx=>by
  simp only [ì] at hx ⊢;refine Kq n (λy hy=>?_) x hx<;>grind [cB]
def yY {f:FuncId}{xs:pz SV}{ty:TypeId}{dst:Option Nat}{st:St}{V:ut}{K:St->ut->Prop}{W D:pz Nat}(hm:m=.none\/((m=.aq\/m=.give)/\(∀s∈ì (ov p q st).boxes 3 (ð (xs.flatMap SV.ids)),q s=none/\s∈W)/\∀k,dst=some k->∀mm,q (gT mm k)=none/\gT mm k∈W))(hd:∀k,dst=some k->p k=none/\k∈D){K':St->ut->Prop}(hK:∀s2 V2,š p q W D st V K s2 V2->K' s2 V2)(hv:mV P T m f xs ty dst (ov p q st) V K):mV P T m f xs ty dst st V K':=by have a:=hm;(cases m with|aq=>{obtain ⟨d,g⟩:(∀s∈ì (ov p q st).boxes 3 (ð (xs.flatMap SV.ids)),q s=none/\s∈W)/\∀k,dst=some k->∀mm,q (gT mm k)=none/\gT mm k∈W:=χ;unfold mV at hv ⊢;dsimp only at hv ⊢;rw [vR (bx:=st.boxes) (bx':=(ov p q st).boxes) (λs b=>cR (d s (gF 3 _ s (cB.2 b))).1)] at hv;split at hv;{rename_i j c h e;exact ⟨λhe=>⟨(hv.1 he).1,kN (.inr ⟨.inl rfl,λs b=>d s (Kq 3 (λx i=>cB.2 (CS e x (cB.1 i))) s b),g⟩) hd hK (hv.1 he).2⟩,λhe=>kN a hd hK (hv.2 he)⟩};{exact kN a hd hK hv}}|_=>exact kN a hd hK hv)
theorem Hv {p2:Nat->Option SV}{q2:Nat->Option aX}{st:St}(hp:∀t,p t=none\/p2 t=none)(hq:∀t,q t=none\/q2 t=none):ov p q (ov p2 q2 st)=ov p2 q2 (ov p q st):=by unfold ov;grind
def Gz:Q->Option Nat
 | .app old _ _ _ _ _ _ _ _=>old
 | .xF s _ _ _ _ _ _ _=>some s
 | _=>none
def OC (T:eu)(bx:Nat->Option aX)(l:Option (List SV))(ts:List TypeId):Q:=
 match l,ts with
 | some [b,x],[t,t']=>match aF T t,aF T t' with
  | some i,some i'=>match i.k,i'.k with
   | .slice e,.slice _=>match aF T e with
    | some ei=>di bx e ei b x
    | none=>.fail
   | _,_=>.fail
  | _,_=>.fail
 | _,_=>.fail
def GA (bx:Nat->Option aX)(sz:Nat)(x:SV):Option (OA×Nat ⊕ List Value):=
 match x with
 | .c (.v (.slice a k _))=>some (.inl (a,k))
 | .c (.m_ s o k _)=>match bx s with
  | some ⟨.row ws,_⟩=>some (.inr (aJ ws o (k*sz)))
  | _=>match fY bx s with
   | some ws=>if Nat.ble (o+k*sz) ws.length then some (.inr ((ws.drop o).take (k*sz))) else none
   | none=>none
 | .c (.eJ s k c)=>match bx s with
  | some ⟨.aB ws,_⟩=>some (.inr (qM ws k c sz))
  | _=>none
 | _=>none
def NN (bx:Nat->Option aX)(e:TypeId)(ei:TI)(b:SV)(src:OA×Nat ⊕ List Value):Q:=
 match b with
 | .c (.v (.slice a n c))=>.app none a [] n c src ei.size ei.bytes e
 | .c (.m_ s 0 n c)=>match fY bx s,nh bx s with
  | some vs,some ty=>if Nat.beq ty e then .app (some s) none vs n c src ei.size ei.bytes e else .fail
  | _,_=>.fail
 | .c (.eJ s n c)=>match bx s with
  | some ⟨.aB vs,ty⟩=>if Nat.beq ty e then .xF s vs n c src ei.size ei.bytes e else .fail
  | _=>.fail
 | _=>.fail
def Cx {bx:Nat->Option aX}{e:TypeId}{ei:TI}{b x:SV}:di bx e ei b x=match mG ei.zero with
  | none=>.fail
  | some zs=>if Nat.beq ei.bytes 0||Nat.beq ei.size 0||!(Nat.beq ei.size zs.length) then .fail else match GA bx ei.size x with
   | none=>.fail
   | some src=>NN bx e ei b src:=rfl
def Pa {bx bx':Nat->Option aX}{sz:Nat}{x:SV}:(∀s∈x.ids,bx' s=bx s)->GA bx sz x=GA bx' sz x:=by unfold GA;split;{exact λ_=>rfl};{intro h;unfold fY;rw [h _ (by simp [SV.ids,C.ids])]};{intro h;rw [h _ (by simp [SV.ids,C.ids])]};{exact λ_=>rfl}
theorem Rx {bx bx':Nat->Option aX}{e:TypeId}{ei:TI}{b:SV}{src:OA×Nat ⊕ pz un}:(∀s∈b.ids,bx' s=bx s)->NN bx e ei b src=NN bx' e ei b src:=by unfold NN;split;{exact λ_=>rfl};{intro h;unfold fY nh;rw [h _ (by simp [SV.ids,C.ids])]};{intro h;rw [h _ (by simp [SV.ids,C.ids])]};{exact λ_=>rfl}
def MI {bx bx':Nat->Option aX}{e:TypeId}{ei:TI}{b x:SV}(h:∀s∈b.ids++x.ids,bx' s=bx s):di bx e ei b x=di bx' e ei b x:=by rw [Cx,Cx,Pa λs a=>h s (Ľ _ a)];grind [Rx]
def Kj {bx:Nat->Option aX}{e:TypeId}{ei:TI}{b x:SV}:∀s,Gz (di bx e ei b x)=some s->s∈b.ids:=by intro s h;unfold di at h;split at h;{cases h};{split at h;{cases h};{dsimp only at h;split at h;{cases h};{split at h;{cases h};{split at h;{split at h;{cases h;simp [SV.ids,C.ids]};{cases h}};{cases h}};{split at h;{split at h;{cases h;simp [SV.ids,C.ids]};{cases h}};{cases h}};{cases h}}}}
def Xm {bx bx':Nat->Option aX}{ys:pz SV}{ts:pz TypeId}{R:pz Nat}(h:∀s∈ys.flatMap SV.ids,bx' s=bx s)(hR:∀s∈ys.flatMap SV.ids,s∈R):OC T bx (some ys) ts=OC T bx' (some ys) ts/\∀s,Gz (OC T bx (some ys) ts)=some s->s∈R:=by unfold OC;split;{rename_i b x t d c;cases c;split;{split;{split;{exact ⟨MI λs a=>h s (by simpa using a),λs a=>hR s (by simp [Kj s a])⟩};{exact ⟨rfl,λs a=>nomatch a⟩}};{exact ⟨rfl,λs a=>nomatch a⟩}};{exact ⟨rfl,λs a=>nomatch a⟩}};{exact ⟨rfl,λs a=>nomatch a⟩}
theorem QB {bx:Nat->Option aX}{e:TypeId}{ei:TI}{b x:SV}:eF (di bx e ei b x)=6\/di bx e ei b x=.fail:=by unfold di;split;{exact .inr rfl};{split;{exact .inr rfl};{dsimp only;split;{exact .inr rfl};{(split<;>(try split)<;>(try split)<;>first|exact .inl rfl|exact .inr rfl)}}}
def Ui {ρ:Operand->Option SV}{bx:Nat->Option aX}{args:Array Operand}{ts:Array TypeId}:eF (aU T ρ bx (.call ⟨.builtin .append,args,ts⟩))=6\/aU T ρ bx (.call ⟨.builtin .append,args,ts⟩)=.fail:=by simp only [aU];split<;>grind [QB]
def H5 {Q0:Q}{dst:Option Nat}{st:St}{V:ut}{K K':St->ut->Prop}{W D:pz Nat}(ht:eF Q0=6\/Q0=.fail)(ho:∀s,Gz Q0=some s->q s=none/\s∈W)(hd:∀k,dst=some k->(p k=none/\k∈D)/\∀s,q (sQ s k)=none/\sQ s k∈W)(hd0:∀k,dst=some k->q k=none/\k∈W)(hK:∀s2 V2,š p q W D st V K s2 V2->K' s2 V2)(h:zO Q0 dst (ov p q st) V K):zO Q0 dst st V K':=by (cases Q0 with|xF s vs n c x size bytes ty=>{simp only [zO] at h ⊢;(cases dst with|none=>exact h.elim|some d=>{dsimp only at h ⊢;have ⟨⟨u,v⟩,r⟩:=hd d rfl;have ⟨B,w⟩:=ho s rfl;have core:∀k xs,yJ s vs n c size bytes ty d (ov p q st) V K k xs->yJ s vs n c size bytes ty d st V K' k xs:=by{rintro k xs ⟨a,f,g,l,j,i⟩;refine ⟨a,f,g,l,j,?_⟩;rw [cR (r s).1] at i;split at i;{exact i.elim};{intro spare y z A;have:=i spare y z A;rw [oT B,oT (r s).1,lF (λk m=>by cases m;exact u)] at this;refine hK _ _ ⟨Ó.Le.refl V,?_,?_,this⟩;{intro t ht;rw [eK,Ã (λe=>ht (by rw [e];exact v))];rfl};{intro t ht;show ((st.box s _).box _ _).boxes t=_;grind [aj]}}};grind})}|app old ba vs n c x size bytes ty=>{simp only [zO] at h ⊢;(cases dst with|none=>exact h.elim|some d=>{dsimp only at h ⊢;have ⟨⟨u,v⟩,r⟩:=hd d rfl;(cases old with|some s=>{dsimp only at h ⊢;have ⟨B,w⟩:=ho s rfl;have core:∀k xs,II s vs n c size bytes ty d (ov p q st) V K k xs->II s vs n c size bytes ty d st V K' k xs:=by{rintro k xs ⟨a,f,g,l,j,i⟩;refine ⟨a,f,g,l,j,?_⟩;rw [cR (r s).1] at i;split at i;{exact i.elim};{intro b J spare y z A;have:=i b J spare y z A;rw [oT B,oT (r s).1,lF (λk m=>by cases m;exact u)] at this;refine hK _ _ ⟨Ó.Le.refl V,?_,?_,this⟩;{intro t ht;rw [eK,Ã (λe=>ht (by rw [e];exact v))];rfl};{intro t ht;show ((st.box s _).box _ _).boxes t=_;rw [aj,Ã (λe=>ht (by rw [e];exact (r s).2)),aj,Ã (λe=>ht (by rw [e];exact w))]}}};(cases x with|inr xs=>exact core _ _ h|inl ak=>{obtain ⟨xs,a,f,g⟩:=h;exact ⟨xs,a,f,core _ _ g⟩})}|none=>{dsimp only at h ⊢;obtain ⟨C,I⟩:=hd0 d rfl;obtain ⟨o,z,A,E,F,h⟩:=h;have core:∀k xs,IJ o n c size bytes ty d (ov p q st) V K k xs->IJ o n c size bytes ty d st V K' k xs:=by{rintro k xs ⟨a,f,g,l,j⟩;refine ⟨a,f,g,l,?_⟩;rw [cR C] at j;split at j;{exact j.elim};{intro spare y G H;have:=j spare y G H;rw [oT C,lF (λk m=>by cases m;exact u)] at this;refine hK _ _ ⟨Ó.Le.refl V,?_,?_,this⟩;{intro t ht;rw [eK,Ã (λe=>ht (by rw [e];exact v))];rfl};{intro t ht;show (st.box d _).boxes t=_;grind [aj]}}};refine ⟨o,z,A,E,F,?_⟩;(cases x with|inr xs=>exact core _ _ h|inl ak=>{obtain ⟨xs,a,f,g,l⟩:=h;refine ⟨xs,a,f,λe=>?_,λe=>core _ _ (l e)⟩;have:=g e;rw [lF (λk m=>by cases m;exact u)] at this;refine hK _ _ ⟨Ó.Le.refl V,?_,λt ht=>rfl,this⟩;intro t ht;rw [eK,Ã (λe=>ht (by rw [e];exact v))]})})})}|fail=>exact h.elim|_=>{rcases ht with ht|ht<;>cases ht})
def wM {h:û}{o:Oper}{st:St}{V:ut}{K:St->ut->Prop}{R W:pz Nat}(hm:qH (bE LF RF o.op)=true\/(bE LF RF o.op=.call/\m=.none)\/((bE LF RF o.op=.nJ/\m=.aq)\/(bE LF RF o.op=.give/\m=.give)\/bE LF RF o.op=.app))(hrw:vL (bE LF RF o.op) h (fN o)=some (R,W))(hp:∀t,t∈kg o.op\/t∈fN o->p t=none)(hq:∀s∈R,q s=none)(hqW:∀s∈W,q s=none){K':St->ut->Prop}(hK:∀s2 V2,š p q W (fN o) st V K s2 V2->K' s2 V2)(hv:dT P T m h o (ov p q st) V K):dT P T m h o st V K':=by
 have Mq:∀t∈kg o.op,st.ay t=(ov p q st).ay t:=λt ht=>by simp [ov,hp t (.inl ht)]
 rcases hm with hm|hm
 ·have ⟨p2,q2,X⟩:=rM hm hrw hv;refine X.again st V _ (Ó.Le.refl V) Mq (λs n=>(cR (hq s n)).symm) ?_;refine hK _ _ ⟨Ó.Le.refl V,λt ht=>by simp [ov,X.pd t ht],λs n=>by simp [ov,X.qd s n],?_⟩;rw [Hv];{exact X.next};{intro t;by_cases h:t∈fN o;{exact .inl (hp t (.inr h))};{exact .inr (X.pd t h)}};{intro s;by_cases h:s∈W;{exact .inl (hqW s h)};{exact .inr (X.qd s h)}}
 ·
  have i:∀(x:Operand),x∈o.op.operands.toList->(ov p q st).bG x=st.bG x:=λx J=>Xe λt e=>hp t (.inl (Ce J e))
  have w:∀k,o.dst=some k->p k=none/\k∈fN o:=λk D=>by have:k∈fN o:=by{simp [fN,D]};exact ⟨hp k (.inr this),this⟩
  have body:(¬bE LF RF o.op=.app)->∀(hh:∀xs f ss Yt args z,o.op=.call ⟨.value Yt,args,z⟩->dh (ov p q st).bG args.toList=some xs->(ov p q st).bG Yt=some (.c (.uz f ss)) ->
    m=.none\/((m=.aq\/m=.give)/\(∀s∈ì (ov p q st).boxes 3 (ð ((xs++Bv ss).flatMap SV.ids)),q s=none/\s∈W)/\∀k,o.dst=some k->∀E,q (gT E k)=none/\gT E k∈W)),
    d_ P T m o (ov p q st) V K->d_ P T m o st V K':=by
   intro a hh hv;unfold d_ at hv ⊢;split at hv
   ·rename_i Yt args z g;have e1:dh (ov p q st).bG args.toList=dh st.bG args.toList:=fU _ λx J=>i x (by rw [g];simp [Op.operands,Call.operands];exact .inr (by simpa using J));have e2:=i Yt (by rw [g];simp [Op.operands,Call.operands]);split at hv;{rename_i xs j;split at hv;{rename_i f ss F;have L:=hh _ _ _ _ _ _ g j F;rw [e1] at j;rw [e2] at F;simp only [j,F];exact yY L w hK hv};{exact hv.elim}};{exact hv.elim}
   ·rename_i recv name args z g;have a3:m=.none:=by{rw [g] at hm;rcases hm with ⟨-,h⟩|⟨h,-⟩|⟨h,-⟩|h;{exact h};{cases h};{cases h};{cases h}};have e1:dh (ov p q st).bG args.toList=dh st.bG args.toList:=fU _ λx J=>i x (by rw [g];simp [Op.operands,Call.operands];exact .inr (by simpa using J));split at hv;{rename_i xs j;split at hv;{rename_i t v F;split at hv;{rename_i f SZ;rw [e1] at j;rw [(i recv (by rw [g];simp [Op.operands,Call.operands]))] at F;simp only [j,F,SZ];exact yY (.inl a3) w hK hv};{exact hv.elim}};{exact hv.elim}};{exact hv.elim}
   ·rename_i a0 G;exfalso;have M:bE LF RF o.op=.call\/bE LF RF o.op=.nJ\/bE LF RF o.op=.give:=by{rcases hm with ⟨h,-⟩|⟨h,-⟩|⟨h,-⟩|h;{exact .inl h};{exact .inr (.inl h)};{exact .inr (.inr h)};{exact Å h a}};clear hm a hh;generalize g:o.op=op at M a0 G;(cases op with|call c=>{obtain ⟨NV,args,z⟩:=c;(cases NV with|builtin b=>{cases b<;>rcases M with h|h|h<;>cases h}|value f=>exact a0 f args z rfl|invoke r nm=>exact G r nm args z rfl)}|_=>{rcases M with h|h|h<;>cases h})
  have N:∀l:pz Nat,W=l++fN o++(fN o).map (·+ 200000)->∀k,o.dst=some k->∀E,q (gT E k)=none/\gT E k∈W:=by intro l Y k D E;have:gT E k∈W:=by{rw [Y];rcases TO (m:=E) (d:=k) with h|h<;>rw [h]<;>simp [((w k D).2)]};exact ⟨hqW _ this,this⟩
  have own:∀l:pz Nat,h=.own l->R=l->W=l++fN o++(fN o).map (·+ 200000)->(bE LF RF o.op=.nJ\/bE LF RF o.op=.give\/bE LF RF o.op=.app)->(¬bE LF RF o.op=.app->m=.aq\/m=.give)->dT P T m h o st V K':=by
   intro l hh hR Y a5 L;subst hh hR;unfold dT at hv ⊢;dsimp only at hv ⊢;split at hv
   ·rename_i ys u;split at hv
    ·rename_i H;have e0:=fU _ λx J=>i x (Cd J);rw [<-e0,u];dsimp only;have B:=CT.1 H
     have e3:hU st.boxes o.op (ys.flatMap SV.ids)=hU (ov p q st).boxes o.op (ys.flatMap SV.ids):=by revert B;unfold hU;split;{intro B;exact qI 3 _ λs n=>(cR (hq s (B s n))).symm};{exact λ_=>rfl}
     rw [e3,H];dsimp only;have a4:∀s∈R,s∈W:=λs n=>by rw [Y];simp [n]
     by_cases a:bE LF RF o.op=.app
     ·
      have g:∃args z,o.op=.call ⟨.builtin .append,args,z⟩:=by
       generalize o.op=op at a
       cases op with
       | call c=>
        obtain ⟨NV,args,z⟩:=c
        cases NV with
        | builtin b=>cases b<;>first|exact ⟨args,z,rfl⟩|cases a
        | value f=>cases f with
         | func f=>simp only [bE] at a;split at a<;>(try split at a)<;>(try split at a)<;>(try split at a)<;>cases a
         | _=>cases a
        | _=>cases a
       | _=>cases a
      obtain ⟨args,z,g⟩:=g
      have e4:aU T st.bG st.boxes o.op=aU T (ov p q st).bG (ov p q st).boxes o.op/\∀s,Gz (aU T st.bG st.boxes o.op)=some s->s∈R:=by have e5:dh (ov p q st).bG args.toList=dh st.bG args.toList:=by{rw [g] at e0;exact e0};have a1:dh st.bG args.toList=some ys:=by{rw [g] at u;rw [<-e5];exact u};have I:∀s∈ys.flatMap SV.ids,s∈R:=by{intro s n;refine B s ?_;rw [g];simp only [hU];exact gF 3 _ s (cB.2 n)};rw [g];simp only [aU];rw [e5,a1];exact Xm (λs n=>by rw [cR (hq s (I s n))]) I
      have O:zO (aU T (ov p q st).bG (ov p q st).boxes o.op) o.dst (ov p q st) V K:=by unfold d_ at hv;rw [g] at hv ⊢;exact hv
      have Q:zO (aU T st.bG st.boxes o.op) o.dst st V K'->d_ P T m o st V K':=by intro h;unfold d_;rw [g] at h ⊢;exact h
      rw [<-e4.1] at O;refine Q ?_
      have a2:∀Z,aU T st.bG st.boxes o.op=Z->eF Z=6\/Z=.fail:=by intro Z hQ;rw [<-hQ,g];exact Ui
      generalize hQ0:aU T st.bG st.boxes o.op=Z at O e4
      exact H5 (a2 Z hQ0) (λs n=>⟨hq s (e4.2 s n),a4 s (e4.2 s n)⟩) (λk D=>⟨w k D,λs=>by
       have:=N R Y k D (some s);exact this⟩) (λk D=>N R Y k D Option.none) hK O
     ·have S:=L a;refine body a (λxs f ss Yt args z g j F=>.inr ⟨S,λs n=>?_,N R Y⟩) hv
      have:s∈R:=by
       apply B;rw [g] at u ⊢;simp only [hU]
       have hy:ys.flatMap SV.ids=(xs++Bv ss).flatMap SV.ids:=by
        have:∀(l:pz Operand)(xs:pz SV)(x:Operand)(v:SV),dh (ov p q st).bG l=some xs->(ov p q st).bG x=some v->dh (ov p q st).bG (l++[x])=some (xs++[v]):=by
         intro l
         induction l with
         | nil=>intro xs x v U h2;simp only [dh,ý] at U;subst U;simp [dh,h2]
         | cons o r ih=>
          intro xs x v U h2;simp only [dh] at U;split at U
          ·rename_i y l' h3 h4;cases U;simp only [Qc0,dh,h3,ih _ x v h4 h2]
          ·cases U
        simp only [mO] at u;rw [this _ _ _ _ j F] at u;cases u;simp only [Qc1];congr 1;simp [Bv,SV.ids,C.ids,List.flatMap_map]
       grind
      grind
    ·exact hv.elim
   ·exact hv.elim
  rcases hm with ⟨A,hm⟩|⟨A,hm⟩|⟨A,hm⟩|A
  ·rw [A] at hrw;(cases h with|own l=>{cases hrw}|free=>{exact body (by rw [A];exact λh=>by cases h) (λ_ _ _ _ _ _ _ _ _=>.inl hm) hv})
  ·rw [A] at hrw;(cases h with|free=>{cases hrw}|own l=>{simp only [vL,ý,ő] at hrw;exact own l rfl hrw.1.symm hrw.2.symm (.inl A) (λ_=>.inl hm)})
  ·rw [A] at hrw;(cases h with|free=>{cases hrw}|own l=>{simp only [vL,ý,ő] at hrw;exact own l rfl hrw.1.symm hrw.2.symm (.inr (.inl A)) (λ_=>.inr hm)})
  ·rw [A] at hrw;(cases h with|free=>{cases hrw}|own l=>{simp only [vL,ý,ő] at hrw;exact own l rfl hrw.1.symm hrw.2.symm (.inr (.inr A)) (λh=>Å A h)})
end
section
variable {P:Program} {T:eu} {LF RF:List Nat}
def DV (ops:Array Oper)(o:Oper)(st:St)(k:St->Bool->Prop):Prop:=
 match o.guard with
 | none=>k st true
 | some (j,b)=>match (ops[j]?).bind (·.dst) with
  | none=>False
  | some g=>match st.ay g with
   | some (.c .tt)=>k st b
   | some (.c .ff)=>k st (!b)
   | some (.c (.v (.bool c)))=>(c=true->k (st.put (some g) (.c .tt)) b)/\(c=false->k (st.put (some g) (.c .ff)) (!b))
   | some (.wF _)=>k st false
   | _=>False
def pC (P:Program)(T:eu)(m:CM)(h:û)(o:Oper)(V:Ó)(K:St->Ó->Prop)(st:St)(w:Bool):Prop:=
 match w with
 | true=>dT P T m h o st V K
 | false=>K (st.put o.dst lQ) V
def H4 {m:CM}{h:û}{ops:Array Oper}{o:Oper}{st:St}{V:ut}{K:St->ut->Prop}:wc P T m h ops o st V K↔DV ops o st (pC P T m h o V K):=by unfold wc DV;(cases hg:o.guard with|none=>rfl|some jb=>{obtain ⟨j,b⟩:=jb;dsimp only;(cases hd:(ops[j]?).bind (·.dst) with|none=>rfl|some g=>{dsimp only;split<;>simp_all<;>cases b<;>rfl})})
def sR:Nat->Option aX:=λ_=>none
structure GOut (ops:Array Oper) (o:Oper) (st:St) (k:St->Bool->Prop) (p:Nat->Option SV) (w:Bool):Prop where
 pd:∀t,t∉gJ ops o->p t=none
 next:k (ov p sR st) w
 again:∀(st2:St)(k2:St->Bool->Prop),(∀t∈gJ ops o,st2.ay t=st.ay t)->k2 (ov p sR st2) w->DV ops o st2 k2
def iw {ops:Array Oper}{o:Oper}{st:St}{k:St->md->Prop}(h:DV ops o st k):∃p w,GOut ops o st k p w:=by unfold DV at h;split at h;{rename_i l;exact ⟨λ_=>none,true,λ_ _=>rfl,h,λd q _ f=>by unfold DV;rw [l];exact f⟩};{rename_i j b l;split at h;{exact h.elim};{rename_i g n;have a:gJ ops o=[g]:=by{simp only [gJ,l,n]};split at h;{rename_i m;exact ⟨λ_=>none,b,λ_ _=>rfl,h,λd q i f=>by unfold DV;simp only [l,n,i g (by simp [a]),m];exact f⟩};{rename_i m;exact ⟨λ_=>none,!b,λ_ _=>rfl,h,λd q i f=>by unfold DV;simp only [l,n,i g (by simp [a]),m];exact f⟩};{rename_i c m;(cases c with|true=>{refine ⟨one (some g) (.c .tt),b,λt r=>e_ (by intro e;apply r;rw [a];simpa using e.symm),?_,λd q i f=>?_⟩;{have:=h.1 rfl;rw [gK] at this;exact this};{unfold DV;simp only [l,n,i g (by simp [a]),m];exact ⟨λ_=>by rw [gK];exact f,λe=>by cases e⟩}}|false=>{refine ⟨one (some g) (.c .ff),!b,λt r=>e_ (by intro e;apply r;rw [a];simpa using e.symm),?_,λd q i f=>?_⟩;{have:=h.2 rfl;rw [gK] at this;exact this};{unfold DV;simp only [l,n,i g (by simp [a]),m];exact ⟨λe=>(by cases e),λ_=>by rw [gK];exact f⟩}})};{rename_i xs m;exact ⟨λ_=>none,false,λ_ _=>rfl,h,λd q i f=>by unfold DV;simp only [l,n,i g (by simp [a]),m];exact f⟩};{exact h.elim}}}
def qR {ops:Array Oper}{o:Oper}{st:St}{k k':St->md->Prop}(hk:∀s w,k s w->k' s w)(h:DV ops o st k):DV ops o st k':=by have ⟨p,w,a⟩:=iw h;grind [a.again,a.next]
def put_comm {st:St}{d d':Option Nat}{x y:SV}(h:∀k,d=some k->d'≠some k):(st.put d x).put d' y=(st.put d' y).put d x:=by (cases d with|none=>rfl|some d=>{(cases d' with|none=>rfl|some d'=>{have a:d≠d':=λe=>h d rfl (by rw [e]);simp only [St.put];grind [ij]})})
def Mh {ops:Array Oper}{o1 o2:Oper}{st:St}{F:St->md->md->Prop}(h:DV ops o1 st λs w1=>DV ops o2 s λs' w2=>F s' w1 w2):DV ops o2 st λs w2=>DV ops o1 s λs' w1=>F s' w1 w2:=by by_cases f:∃g,gJ ops o1=[g]/\gJ ops o2=[g];{obtain ⟨g,a,b⟩:=f;unfold gJ at a b;split at a;{cases a};{rename_i u v i;split at a;{rename_i w j;cases a;split at b;{cases b};{rename_i x y k;split at b;{rename_i z l;cases b;unfold DV at h ⊢;simp only [i,k,j,l] at h ⊢;split at h;{rename_i n;exact h};{rename_i n;exact h};{grind [eK]};{rename_i xs n;exact h};{exact h.elim}};{cases b}}};{cases a}}};{have ⟨q,w1,d⟩:=iw h;have ⟨r,w2,e⟩:=iw d.next;have p:∀o:Oper,gJ ops o=[]\/∃g,gJ ops o=[g]:=by{intro o;unfold gJ;grind};have c:∀t,t∈gJ ops o1->t∉gJ ops o2:=χ;refine e.again st _ (λt m=>?_) (d.again _ _ (λt m=>?_) ?_);{show st.ay t=(ov q sR st).ay t;simp [ov,d.pd t (λh=>c t h m)]};{show (ov r sR st).ay t=st.ay t;simp [ov,e.pd t (c t m)]};grind [sR,Hv,e.pd,d.pd,e.next]}
theorem kG {o:Oper}{k:Nat}(h:o.dst=some k):k∈fN o:=by simp [fN,h]
def W7 {ops:Array Oper}{m1 m2:CM}{h1 h2:û}{o1 o2:Oper}{st:St}{V:ut}{K:St->ut->Prop}(hi:Ĕ LF RF ops h1 h2 o1 o2=true)(hm:qH (bE LF RF o2.op)=true\/(bE LF RF o2.op=.call/\m2=.none)\/((bE LF RF o2.op=.nJ/\m2=.aq)\/(bE LF RF o2.op=.give/\m2=.give)\/bE LF RF o2.op=.app))(hv:wc P T m1 h1 ops o1 st V λst1 V1=>wc P T m2 h2 ops o2 st1 V1 K):wc P T m2 h2 ops o2 st V λst2 V2=>wc P T m1 h1 ops o1 st2 V2 K:=by unfold Ĕ at hi;simp only [ċ] at hi;obtain ⟨⟨⟨⟨⟨v,f⟩,g⟩,w⟩,y⟩,l⟩:=hi;split at l;{rename_i S U W X z o;simp only [ċ] at l;obtain ⟨⟨L,n⟩,A⟩:=l;rw [Jt] at f g w y L n A;have B:∀k,o2.dst=some k->o1.dst≠some k:=λk C F=>f k (kG F) (by simp [kG C]);simp only [H4] at hv ⊢;have O:DV ops o1 st λs m=>DV ops o2 s λD j=>pC P T m1 h1 o1 V (λr G=>pC P T m2 h2 o2 G K r j) D m:=by{refine qR (λs m c=>?_) hv;(cases m with|true=>{have ⟨p,q,i⟩:=rM v z c;have ⟨E,j,b⟩:=iw i.next;refine b.again s _ (λt a=>?_) ?_;{show s.ay t=(ov p q s).ay t;simp [ov,i.pd t (λh=>f t h (by simp [a]))]};{refine i.again _ V _ (Ó.Le.refl V) (λt a=>?_) (λ_ _=>rfl) ?_;{show (ov E sR s).ay t=s.ay t;simp [ov,b.pd t (λh=>y t h a)]};grind [Hv,sR,b.next,i.pd,b.pd]}}|false=>{simp only [pC] at c;have ⟨E,j,b⟩:=iw c;have Q:∀k,o1.dst=some k->E k=none:=λk C=>b.pd k (λh=>f k (kG C) (by simp [h]));refine b.again s _ (λt a=>?_) ?_;{rw [gK];simp [ov,e_ (d:=o1.dst) (x:=lQ) (t:=t) (λh=>f t (kG h) (by simp [a]))]};{show pC P T m2 h2 o2 V K ((ov E sR s).put o1.dst lQ) j;rw [lF Q];exact b.next}})};have R:DV ops o2 st λs j=>DV ops o1 s λD m=>pC P T m2 h2 o2 V (λr G=>pC P T m1 h1 o1 G K r m) D j:=by{refine qR (λs j c=>qR (λD m c=>?_) c) (Mh O);(cases m with|true=>{have ⟨p,q,i⟩:=rM v z c;(cases j with|true=>{refine wM hm o (λt a=>i.pd t (λh=>f t h (by rcases a with a|a<;>simp [a]))) (λs u=>i.qd s (λh=>L s h u)) (λs u=>i.qd s (λh=>A s h u)) (λs2 V2 b=>?_) i.next;obtain ⟨M,H,N,I⟩:=b;exact i.again s2 V2 K M (λt a=>H t (λh=>g t h (by simp [a]))) (λs u=>N s (λh=>n s h u)) I}|false=>{refine i.again _ V K (Ó.Le.refl V) (λt a=>?_) (λs _=>by cases o2.dst<;>rfl) ?_;{rw [gK];simp [ov,e_ (d:=o2.dst) (x:=lQ) (t:=t) (λh=>g t (kG h) (by simp [a]))]};grind [i.next,pC,lF,i.pd,kG]})}|false=>{(cases j with|true=>{simp only [pC] at c ⊢;rw [gK] at c;refine wM hm o (λt a=>e_ (λe=>f t (kG e) (by rcases a with a|a<;>simp [a]))) (λs u=>rfl) (λs u=>rfl) (λs2 V2 b=>?_) c;have:=b.2.2.2;grind [gK]}|false=>{simp only [pC] at c ⊢;rw [put_comm B];exact c})})};refine qR (λs j c=>?_) R;(cases j with|true=>{simp only [pC] at c ⊢;have ⟨p,m,b⟩:=iw c;refine wM hm o (λt a=>b.pd t (λh=>?_)) (λ_ _=>rfl) (λ_ _=>rfl) (λs2 V2 J=>?_) b.next;{rcases a with a|a;{exact w t h a};{exact g t a (by simp [h])}};{obtain ⟨M,H,N,I⟩:=J;exact b.again s2 _ (λt a=>H t (λh=>g t h (by simp [a]))) I}}|false=>{simp only [pC] at c ⊢;have ⟨p,m,b⟩:=iw c;refine b.again _ _ (λt a=>?_) ?_;{rw [gK];simp [ov,e_ (d:=o2.dst) (x:=lQ) (t:=t) (λh=>g t (kG h) (by simp [a]))]};{have:=b.next;rw [lF (λk C=>b.pd k (λh=>g k (kG C) (by simp [h])))] at this;exact this}})};{cases l}
end
end Go.Eng
