import Derived.Test.YtlhmddanbgcbjaaGreatDoorL3
set_option linter.all false
open Go.IntKind (i64 u64 u32)
namespace Go.Eng
variable {P:Program} {T:eu} {n:Nat} {V0:View} {bQ:J8} {β0:Nat->Nat} {st:St} {β:Nat->Nat} {a:Act} {w:World} {V:View}
def KT {t:TypeId}{name:String}{f:FuncId}(h:KS P t name=some f)(k:Nat)(v:un)(w:World):(Go.method (k+1) t v name).run P w=.ok (f,v) w:=by unfold KS at h;split at h;{rename_i i d b c;split at h;{rename_i m hm;split at h;{rename_i j l e g;cases h;have a:m.path=#[]:=by{apply Qd7;exact e};simp only [Go.method,typeInfo,Sem.run_bind,run_program,Result.andThen_ok,b,hm,Sem.run_pure,a,follow,g,receiverAt,ai c,Place.get]};{cases h}};{cases h}};{cases h}
def xf (hT:eu.ok P T)(hM:Mod n V0 bQ β0 st β a w V){m:CM}{o:Oper}{K:St->ut->Prop}{next:Act->World->Prop}{Q:Exit->Act->World->Prop}
  (hd:∀d,o.dst=some d->d<n)(hv:dY P T m o st V K)
  (hK:∀st' β' a' w' V',Mod n V0 bQ β0 st' β' a' w' V'->K st' V'->next a' w'):o.wp P a w next Q:=by unfold dY at hv;split at hv;{rename_i A args r e;split at hv;{rename_i xs g;have ⟨h,u⟩:=iq hM _ _ g;split at hv;{rename_i f i j;have ⟨k,l⟩:=Aj (Q:=Q) hM hd hv hK;have p:args.map a.eval=(xs.map (SV.den β)).toArray:=by{apply Qd7;rw [Qf1];exact h};have q:aH β (xs++Ak i)=(xs.map (SV.den β)).toArray++(i.map λs=>Value.pointer (some ⟨β s,0,none⟩)).toArray:=by{unfold aH Ak;grind [SV.den,C.den]};have b:(execOp a.eval o).run P w=.ok (.enter f (aH β (xs++Ak i))) w:=by{rw [q];simp only [execOp,e,resolve,hM.eval j,SV.den,C.den,Deferred.ofValue,pure_bind,invoke,p,Array.empty_append];exact k.run _};unfold Oper.wp;rw [b];exact l};{exact hv.elim}};{exact hv.elim}};{rename_i recv name args r e;split at hv;{rename_i xs g;have ⟨h,u⟩:=iq hM _ _ g;split at hv;{rename_i t v j;split at hv;{rename_i f x;have ⟨k,l⟩:=Aj (Q:=Q) hM hd hv hK;have p:args.map a.eval=(xs.map (SV.den β)).toArray:=by{apply Qd7;rw [Qf1];exact h};have q:aH β (.c (.w v)::xs)=#[v]++(xs.map (SV.den β)).toArray:=by{unfold aH;grind [SV.den,C.den]};have b:(execOp a.eval o).run P w=.ok (.enter f (aH β (.c (.w v)::xs))) w:=by{rw [q];have y:(#[Value.iface t v]++(xs.map (SV.den β)).toArray).extract 1 (#[Value.iface t v]++(xs.map (SV.den β)).toArray).size=(xs.map (SV.den β)).toArray:=by{grind};have z:(#[Value.iface t v]++(xs.map (SV.den β)).toArray)[0]?=some (Value.iface t v):=by{simp};simp only [execOp,e,resolve,hM.eval j,SV.den,C.den,pure_bind,invoke,p,z,y,callMethod,Sem.run_bind,run_program,Result.andThen_ok,Made.depth];rw [KT x];exact k.run _};unfold Oper.wp;rw [b];exact l};{exact hv.elim}};{exact hv.elim}};{exact hv.elim}};{grind [I2]}
theorem kN (hT:eu.ok P T)(hM:Mod n V0 bQ β0 st β a w V){m:CM}{h:Hint}{o:Oper}{K:St->ut->Prop}{next:Act->World->Prop}{Q:Exit->Act->World->Prop}
  (hd:∀d,o.dst=some d->d<n)(hv:dR P T m h o st V K)
  (hK:∀st' β' a' w' V',Mod n V0 bQ β0 st' β' a' w' V'->K st' V'->next a' w'):o.wp P a w next Q:=by unfold dR at hv;split at hv;{exact xf hT hM hd hv hK};{split at hv;{split at hv;{exact xf hT hM hd hv hK};{exact hv.elim}};{exact hv.elim}}
def Mod.refine (hM:Mod n V0 bQ β0 st β a w V){g:Nat}{x y:SV}(hx:st.ax g=some x)(he:x.den β=y.den β)(hy:y.ids=[]):Mod n V0 bQ β0 (st.put (some g) y) β a w V:=by refine ⟨hM.defers,hM.size,?_,?_,hM.CK,hM.boxes,hM.inj,hM.qZ,hM.yg,hM.ext,hM.own,hM.nJ,hM.my,hM.small⟩;{grind [eO,hM.ax]};{intro t z b;rw [eO] at b;split at b;{simp only [Qw1] at b;rw [←b,hy];exact λs c=>(nomatch c)};{exact hM.CL t z b}}
def LX {ops:Array Oper}{tmps:Array un}{j g:Nat}(hg:(ops[j]?).bind (·.dst)=some g):yielded ops tmps j=match tmps.getD g undef with|.bool b=>some b|_=>none:=by unfold yielded;rw [hg];simp only [Option.bind_some];by_cases h:g<tmps.size;{have a:tmps[g]?=some tmps[g]:=getElem?_pos tmps g h;have c:tmps.getD g undef=tmps[g]:=by{simp [h]};grind};{simp [h,undef]}
def IL (hT:eu.ok P T)(hM:Mod n V0 bQ β0 st β a w V){m:CM}{h:Hint}{ops:Array Oper}{o:Oper}{K:St->ut->Prop}{next:Act->World->Prop}{Q:Exit->Act->World->Prop}
  (hd:∀d,o.dst=some d->d<n)(hv:vo P T m h ops o st V K)
  (hK:∀st' β' a' w' V',Mod n V0 bQ β0 st' β' a' w' V'->K st' V'->next a' w') :
  if Region.wanted o (yielded ops a.tmps) then o.wp P a w next Q else next (a.put o.dst undef) w:=by unfold vo at hv;split at hv;{grind [Region.wanted,kN]};{rename_i j b u;split at hv;{exact hv.elim};{rename_i g p;have v:=LX (tmps:=a.tmps) p;have f:∀c:md,a.tmps.getD g undef=.bool c->(Region.wanted o (yielded ops a.tmps)=true↔c=b):=by{grind [Region.wanted]};have skip:∀{l:St},Mod n V0 bQ β0 l β a w V->K (l.put o.dst lJ) V->next (a.put o.dst undef) w:=by{intro l q r;exact hK _ _ _ _ _ (q.IY hd rfl (ct rfl)) r};split at hv;{rename_i k;have i:=hM.ax g _ k;split at hv;{rw [if_pos ((f true i).2 rfl)];exact kN hT hM hd hv hK};{rw [if_neg (λh=>by have:=(f true i).1 h;cases this)];exact skip hM hv}};{rename_i k;have i:=hM.ax g _ k;split at hv;{rw [if_neg (λh=>by have:=(f false i).1 h;cases this)];exact skip hM hv};{rw [if_pos ((f false i).2 rfl)];exact kN hT hM hd hv hK}};{rename_i c k;have i:=hM.ax g _ k;have s:c=true->Mod n V0 bQ β0 (st.put (some g) (.c .tt)) β a w V:=λe=>hM.refine k (by rw [e];rfl) rfl;have t:c=false->Mod n V0 bQ β0 (st.put (some g) (.c .ff)) β a w V:=λe=>hM.refine k (by rw [e];rfl) rfl;split at hv;{(cases c with|true=>{rw [if_pos ((f true i).2 rfl)];exact kN hT (s rfl) hd (hv.1 rfl) hK}|false=>{rw [if_neg (λh=>by have:=(f false i).1 h;cases this)];exact skip (t rfl) (hv.2 rfl)})};{(cases c with|true=>{rw [if_neg (λh=>by have:=(f true i).1 h;cases this)];exact skip (s rfl) (hv.1 rfl)}|false=>{rw [if_pos ((f false i).2 rfl)];exact kN hT (t rfl) hd (hv.2 rfl) hK})}};{rename_i xs k;have i:=hM.ax g _ k;grind [Region.wanted,SV.den]};{exact hv.elim}}}
def EL (hT:eu.ok P T){m:Nat->CM}{hint:Nat->Hint}{ops:Array Oper}(hd:∀(i:Nat)(o:Oper),ops[i]?=some o->∀d,o.dst=some d->d<n){Q:Exit->Act->World->Prop}{K:St->ut->Prop}
  (hK:∀st' β' a' w' V',Mod n V0 bQ β0 st' β' a' w' V'->K st' V'->Q .normal a' w') :
  ∀(l:pz Nat)(st:St)(β:Nat->Nat)(a:Act)(w:World)(V:ut),Mod n V0 bQ β0 st β a w V->S6 P T m hint ops l st V K->wpOps P ops Q l a w
 | [],st,β,a,w,V,hM,hv=>hK _ _ _ _ _ hM hv
 | i::r,st,β,a,w,V,hM,hv=>by
  simp only [S6] at hv;simp only [wpOps];split at hv
  ·rename_i o ho;rw [ho];dsimp only;have:=IL (Q:=Q) (next:=wpOps P ops Q r) hT hM (hd i o ho) hv (λst' β' a' w' V' b c=>EL hT hd hK r st' β' a' w' V' b c);grind
  ·exact hv.elim
end Go.Eng
namespace Go.Eng
def ov (p:Nat->Option SV)(q:Nat->Option aW)(st:St):St:=
 ⟨λt=>match p t with|some x=>some x|none=>st.ax t,λt=>match q t with|some x=>some x|none=>st.boxes t⟩
theorem ig {a b:Nat}(h:a≠b):Nat.beq a b=false:=by cases hb:Nat.beq a b;{rfl};{exact absurd (beq_eq.1 hb) h}
section
variable {p:Nat->Option SV} {q:Nat->Option aW} {st:St}
theorem lB {d:Option Nat}{x:SV}(h:∀k,d=some k->p k=none):(ov p q st).put d x=ov p q (st.put d x):=by (cases d with|none=>rfl|some d=>{have a:=h d rfl;simp only [ov,St.put];grind [ig]})
theorem oD {s:Nat}{b:aW}(h:q s=none):(ov p q st).box s b=ov p q (st.box s b):=by simp only [ov,St.box];grind [ig]
theorem cM {s:Nat}(h:q s=none):(ov p q st).boxes s=st.boxes s:=by simp [ov,h]
def UU {x:Operand}(h:∀t,x=.tmp t->p t=none):(ov p q st).bC x=st.bC x:=by (cases x with|tmp t=>simp [St.bC,ov,h t rfl]|_=>rfl)
def one {α:Type}(d:Option Nat)(x:α):Nat->Option α:=λt=>match d with|some k=>cond (Nat.beq t k) (some x) none|none=>none
theorem fg {α:Type}{d:Option Nat}{x:α}{t:Nat}(h:d≠some t):one d x t=none:=by cases d<;>grind [one,ig]
theorem gG (d:Option Nat)(x:SV):st.put d x=ov (one d x) (λ_=>none) st:=by (cases d with|none=>rfl|some d=>grind [ov,St.put,one])
theorem PQ (s:Nat)(b:aW):st.box s b=ov (λ_=>none) (one (some s) b) st:=by grind [ov,St.box,one]
def Ea (s:Nat)(b:aW)(d:Option Nat)(x:SV):(st.box s b).put d x=ov (one d x) (one (some s) b) st:=by rw [gG,PQ];rfl
end
def fR {ρ ρ':Operand->Option SV}:∀l:pz Operand,(∀x∈l,ρ x=ρ' x)->cR ρ l=cR ρ' l
 | [],_=>rfl
 | o::r,h=>by simp only [cR];rw [h o (by simp),fR r λx hx=>h x (by simp [hx])]
def mE {ρ ρ':Operand->Option SV}:∀l:pz (Nat×Operand),(∀x∈l.map (·.2),ρ x=ρ' x)->partsOf ρ l=partsOf ρ' l
 | [],_=>rfl
 | (i,o)::r,h=>by simp only [partsOf];rw [h o (by simp),mE r λx hx=>h x (by simp only [Qn3,Qq5];exact .inr hx)]
theorem KY {ρ ρ':Operand->Option SV}:∀l:Option Operand,(∀x,l=some x->ρ x=ρ' x)->F7 ρ l=F7 ρ' l
 | none,_=>rfl
 | some o,h=>by simp only [F7];rw [h o rfl]
def pY {T:eu}{ρ ρ':Operand->Option SV}{bx:Nat->Option aW}{op:Op}(h:∀x∈op.operands.toList,ρ x=ρ' x):aS T ρ bx op=aS T ρ' bx op:=by (cases op with|move x=>{simp only [aS];rw [h x (by simp [Op.operands])]}|assign x=>{simp only [aS];rw [h x (by simp [Op.operands])]}|pick c a b=>{simp only [aS];rw [h c (by simp [Op.operands]),h a (by simp [Op.operands]),h b (by simp [Op.operands])]}|box t x=>{simp only [aS];rw [h x (by simp [Op.operands])]}|build t ps=>{simp only [aS];rw [mE _ λx g=>h x (by simpa [Op.operands] using g)]}|buildSlice t n ps=>{simp only [aS];rw [mE _ λx g=>h x (by simpa [Op.operands] using g)]}|load t a=>{simp only [aS];rw [h a (by simp [Op.operands])]}|store t a x=>{simp only [aS];rw [h a (by simp [Op.operands]),h x (by simp [Op.operands])]}|nilCheck x=>{simp only [aS];rw [h x (by simp [Op.operands])]}|binOp o xt x y yt=>{simp only [aS];rw [h x (by simp [Op.operands]),h y (by simp [Op.operands])]}|unOp o xt x=>{cases o<;>simp only [aS]<;>rw [h x (by simp [Op.operands])]}|convert s d x=>{simp only [aS];rw [h x (by simp [Op.operands])]}|makeFunc fn first caps=>{(cases fn with|func f=>{simp only [aS];rw [fR _ λx g=>h x (by simp [Op.operands];exact .inr (by simpa using g))]}|_=>rfl)}|makeSlice t a b=>{simp only [aS];rw [h a (by simp [Op.operands]),h b (by simp [Op.operands])]}|slice t x lo hi mx=>{simp only [aS];grind [Op.operands,KY]}|fieldAddr t x f=>{simp only [aS];rw [h x (by simp [Op.operands])]}|field t x f=>{simp only [aS];rw [h x (by simp [Op.operands])]}|indexAddr t x i=>{simp only [aS];rw [h x (by simp [Op.operands]),h i (by simp [Op.operands])]}|extract x j=>{simp only [aS];rw [h x (by simp [Op.operands])]}|index t x i=>{simp only [aS];rw [h x (by simp [Op.operands]),h i (by simp [Op.operands])]}|makeInterface t x=>{simp only [aS];rw [h x (by simp [Op.operands])]}|call c=>{obtain ⟨k,args,l⟩:=c;(cases k with|builtin b=>{have e:cR ρ args.toList=cR ρ' args.toList:=fR _ λx g=>h x (by simpa [Op.operands,Call.operands] using g);cases b<;>simp only [aS]<;>rw [e]}|_=>rfl)}|_=>rfl)
def Sn {T:eu}{LF RF:pz Nat}{ρ:Operand->Option SV}{bx bx':Nat->Option aW}{op:Op}(h:bG LF RF op=.pure\/bG LF RF op=.alloc):aS T ρ bx op=aS T ρ bx' op:=by (cases op with|load t a=>{rcases h with h|h<;>cases h}|store t a x=>{rcases h with h|h<;>cases h}|unOp o xt x=>{cases o<;>rfl}|makeFunc fn first caps=>{cases fn<;>rfl}|call c=>{obtain ⟨d,args,e⟩:=c;(cases d with|builtin b=>{(cases b<;>first|rfl|(rcases h with h|h<;>cases h))}|_=>rfl)}|_=>rfl)
theorem Sq {bx bx':Nat->Option aW}{i:TI}{x:SV}(h:∀s∈x.ids,bx' s=bx s):lD bx i x=lD bx' i x:=by unfold lD;grind [SV.ids,C.ids]
def OQ {bx bx':Nat->Option aW}{i:TI}{x y:SV}(h:∀s∈x.ids,bx' s=bx s):je bx i x y=je bx' i x y:=by unfold je;grind [SV.ids,C.ids]
def K8 {bx:Nat->Option aW}{i:TI}{x y:SV}{sc:pz Prop}{s:Nat}{b:aW}(h:je bx i x y=.yw sc s b):s∈x.ids:=by unfold je at h;grind [SV.ids,C.ids]
def MX {V:ut}{p:Addr}:∀(cs:pz C) (i:Nat) {k:Prop},V.U6 p i cs k↔V.U6 p i cs True/\k
 | [],_,k=>by simp [View.U6]
 | c::r,i,k=>by
  simp only [View.U6];rw [MX r (i+1),and_assoc]
def Ss {V V':ut}(h:V.Le V'){p:Addr}:∀(cs:pz C) (i:Nat) {k:Prop},V.U6 p i cs k->V'.U6 p i cs k
 | [],_,_,hk=>hk
 | c::r,i,_,hk=>⟨h.at hk.1,Ss h r (i+1) hk.2⟩
def uJ {V:ut}{p:OA}{x:SV}{k:Prop}:V.U5 p x k↔V.U5 p x True/\k:=by (cases x with|agg cs=>{simp only [View.U5];constructor;{rintro ⟨a,c,b⟩;rw [MX] at b;exact ⟨⟨a,c,b.1⟩,b.2⟩};grind}|_=>grind [View.U5])
def YS {V V':ut}(h:V.Le V'){p:OA}{x:SV}{k:Prop}(hk:V.U5 p x k):V'.U5 p x k:=by (cases x with|c c=>{obtain ⟨⟨a,b,d⟩,e⟩:=hk;exact ⟨⟨a,b,h.at d⟩,e⟩}|agg cs=>{obtain ⟨a,b,d⟩:=hk;exact ⟨a,b,Ss h _ _ d⟩}|vL xs=>exact hk)
def CF.split:∀(s:CF) {F:C->Prop},s.ex F->∃x,F x/\∀G:C->Prop,G x->s.ex G
 | .int _,_,⟨_,h⟩=>⟨_,h,λ_ g=>⟨_,g⟩⟩
 | .bool,_,⟨_,h⟩=>⟨_,h,λ_ g=>⟨_,g⟩⟩
 | .slice,_,⟨_,_,_,h⟩=>⟨_,h,λ_ g=>⟨_,_,_,g⟩⟩
 | .ptr,_,⟨_,h⟩=>⟨_,h,λ_ g=>⟨_,g⟩⟩
 | .str,_,⟨_,h⟩=>⟨_,h,λ_ g=>⟨_,g⟩⟩
 | .any,_,⟨_,h⟩=>⟨_,h,λ_ g=>⟨_,g⟩⟩
def qK:∀(l:pz CF) {F:pz C->Prop},XA l F->∃x,F x/\∀G:pz C->Prop,G x->XA l G
 | [],_,h=>⟨_,h,λ_ g=>g⟩
 | s::r,_,h=>by
  have ⟨c,h1,h2⟩:=CF.split s h;have ⟨cs,a,b⟩:=qK r h1;exact ⟨c::cs,a,λG g=>h2 _ (b _ g)⟩
def zJ.split:∀(s:zJ) {F:SV->Prop},s.ex F->∃x,F x/\∀G:SV->Prop,G x->s.ex G
 | .one s,_,h=>by have ⟨c,h1,h2⟩:=CF.split s h;exact ⟨.c c,h1,λG g=>h2 _ g⟩
 | .agg l,_,h=>by have ⟨c,h1,h2⟩:=qK l h;exact ⟨.agg c,h1,λG g=>h2 _ g⟩
def wu:∀(l:pz zJ) {F:pz (md×pz C)->Prop},Ze l F->∃x,F x/\∀G:pz (md×pz C)->Prop,G x->Ze l G
 | [],_,h=>⟨_,h,λ_ g=>g⟩
 | .one s::r,_,h=>by
  have ⟨c,h1,h2⟩:=CF.split s h;have ⟨cs,a,b⟩:=wu r h1;exact ⟨_,a,λG g=>h2 _ (b _ g)⟩
 | .agg l::r,_,h=>by
  have ⟨c,h1,h2⟩:=qK l h;have ⟨cs,a,b⟩:=wu r h1;exact ⟨_,a,λG g=>h2 _ (b _ g)⟩
def Sh.split:∀(s:Sh) {F:SV->Prop},s.ex F->∃x,F x/\∀G:SV->Prop,G x->s.ex G
 | .val s,_,h=>zJ.split s h
 | .vL l,_,h=>by have ⟨x,h1,h2⟩:=wu l h;exact ⟨_,h1,λG g=>h2 _ g⟩
 | .none,_,h=>⟨_,h,λ_ g=>g⟩
def Sh.s {s:Sh}{F G:SV->Prop}(h:s.ex F)(k:∀x,F x->G x):s.ex G:=by have ⟨x,a,b⟩:=s.split h;exact b G (k x a)
def BJ {l m:pz Nat}:SS l m=true↔∀x∈l,x∈m:=by simp only [SS,Qz4,dW]
def A7 {op:Op}{x:Operand}(h:x∈op.operands.toList){t:Nat}(e:x=.tmp t):t∈jT op:=by subst e;exact List.mem_filterMap.2 ⟨_,h,rfl⟩
def qR {st st2:St}{op:Op}(h:∀t∈jT op,st2.ax t=st.ax t){x:Operand}(hx:x∈op.operands.toList):st2.bC x=st.bC x:=by (cases x with|tmp t=>exact h t (A7 hx rfl)|_=>rfl)
def A6 {op:Op}{x:Operand}(h:x∈jS op):x∈op.operands.toList:=by unfold jS at h;grind [Op.operands,Call.operands]
def wK {ρ:Operand->Option SV}:∀{l:pz Operand} {xs:pz SV},cR ρ l=some xs->∀x∈l,∃v,ρ x=some v/\v∈xs
 | [],_,_,_,hx=>nomatch hx
 | o::r,xs,h,x,hx=>by
  simp only [cR] at h;split at h
  ·rename_i v l h1 h2;cases h;rcases Qq5.1 hx with e|hx
   ·exact ⟨v,by rw [e];exact h1,by simp⟩
   ·have ⟨u,hu,hm⟩:=wK h2 x hx;grind
  ·cases h
structure Outcome (P:Program) (T:eu) (m:CM) (h:Hint) (o:Oper) (st:St) (V:View) (R W:List Nat) (K:St->View->Prop) (p:Nat->Option SV) (q:Nat->Option aW):Prop where
 pd:∀t,t∉fN o->p t=none
 qd:∀s,s∉W->q s=none
 next:K (ov p q st) V
 again:∀(st2:St)(V2:View)(K2:St->View->Prop),V.Le V2->(∀t∈jT o.op,st2.ax t=st.ax t)->(∀s∈R,st2.boxes s=st.boxes s)->K2 (ov p q st2) V2->dR P T m h o st2 V2 K2
variable {P:Program} {T:eu} {LF RF:List Nat} {m:CM}
def FH {o:Oper}{t:Nat}(h:t∉fN o):o.dst≠some t:=by intro e;apply h;simp [fN,e]
def Vv {o:Oper}{st:St}{V:ut}{K:St->ut->Prop}{R W:pz Nat}{Q0:Q}
  (hnew:∀sc b x,Q0=.new sc b x->fN o=W/\fN o=R)(hupd:∀sc s b,Q0=.yw sc s b->s∈W)(happ:eH Q0≠6)
  (hv:yx Q0 o.dst st V K) :
  ∃p q,(∀t,t∉fN o->p t=none)/\(∀s,s∉W->q s=none)/\K (ov p q st) V /\
   ∀(st2:St)(V2:ut)(K2:St->ut->Prop),V.Le V2->(∀s∈R,st2.boxes s=st.boxes s)->K2 (ov p q st2) V2->yx Q0 o.dst st2 V2 K2:=by (cases Q0 with|fail=>exact hv.elim|ret sc x=>{obtain ⟨h,k⟩:=(fG sc _).1 hv;refine ⟨one o.dst x,λ_=>none,λt l=>fg (FH l),λ_ _=>rfl,by rw [←gG];exact k,?_⟩;intro st2 V2 K2 _ _ m;exact (fG sc _).2 ⟨h,by rw [gG];exact m⟩}|new sc b x=>{have ⟨r,u⟩:=hnew _ _ _ rfl;simp only [yx] at hv ⊢;(cases hd:o.dst with|none=>{rw [hd] at hv;exact hv.elim}|some d=>{have n:fN o=[d]:=by{simp [fN,hd]};rw [hd] at hv;dsimp only at hv ⊢;split at hv;{rename_i v;obtain ⟨h,k⟩:=(fG sc _).1 hv;refine ⟨one (some d) (x d),one (some d) b,λt l=>fg (by intro e;apply l;rw [n];simpa using e.symm),λs w=>fg (by intro e;apply w;rw [←r,n];simpa using e.symm),by rw [←Ea];exact k,?_⟩;intro st2 V2 K2 _ y m;rw [y d (by rw [←u,n];simp),v];exact (fG sc _).2 ⟨h,by rw [Ea];exact m⟩};{exact hv.elim}})}|yw sc s b=>{simp only [yx] at hv ⊢;(cases hd:o.dst with|some d=>{rw [hd] at hv;exact hv.elim}|none=>grind [fG,fg,PQ])}|rd a sh=>{have ⟨x,h,k⟩:=sh.split hv;have ⟨z,A⟩:=uJ.1 h;refine ⟨one o.dst x,λ_=>none,λt l=>fg (FH l),λ_ _=>rfl,by rw [←gG];exact A,?_⟩;intro st2 V2 K2 hle _ m;exact k _ (uJ.2 ⟨YS hle z,by rw [gG];exact m⟩)}|rM vs of size sh=>{have ⟨x,h,k⟩:=sh.split hv;refine ⟨one o.dst x,λ_=>none,λt l=>fg (FH l),λ_ _=>rfl,by rw [←gG];exact h.2,?_⟩;intro st2 V2 K2 hle _ m;exact k _ ⟨h.1,by rw [gG];exact m⟩}|app a b c d e f g i j=>exact absurd rfl happ|wH a b c d e f g i=>exact absurd rfl happ)
def Bt {o:Oper}(h:pZ (bG LF RF o.op)=true)(st:St)(V:ut)(K:St->ut->Prop):dY P T m o st V K=yx (aS T st.bC st.boxes o.op) o.dst st V K:=by unfold dY;split;{rename_i f args b a;rw [a] at h;exfalso;(cases f with|func f=>{simp only [bG] at h;split at h;{split at h<;>cases h};{split at h;{cases h};{split at h<;>cases h}}}|_=>{cases h})};{rename_i recv name args b a;rw [a] at h;cases h};{rfl}
def tv {ρ:Operand->Option SV}{bx:Nat->Option aW}{op:Op}:eH (aS T ρ bx op)=2->bG LF RF op=.alloc:=by
 have fE:∀{q:Q} {X:Prop},eH q<=1->eH q=2->X:=by intro q X h h';omega
 unfold aS;split
 case h_8=>
  split
  ·intro h;rcases E5 (bx:=bx) with h'|h'|h'|h'<;>(rw [h'] at h;cases h)
  ·exact fE (Qq4 _)
 case h_9=>
  split
  ·intro h;rcases BR (bx:=bx) with h'|h'<;>(rw [h'] at h;cases h)
  ·exact fE (Qq4 _)
 case h_11=>
  split
  ·split;{split;{exact fE u_};{exact fE (Qq4 _)}};{exact fE u_}
  ·exact fE (Qq4 _)
 case h_17=>exact λ_=>rfl
 case h_18=>
  split
  ·split;{split;{exact fE BQ};{exact fE (Qq4 _)}};{exact fE (Qq4 _)}
  ·exact fE (Qq4 _)
 case h_21=>
  split
  ·exact fE qk
  ·exact fE (Qq4 _)
 case h_23 c=>
  split
  ·intro h;exfalso;split at h<;>(try split at h)<;>(try split at h)<;>(try split at h)<;>first|(rcases qj (bx:=bx) with h'|h'<;>(rw [h'] at h;cases h))|cases h
  ·split;{intro h;rcases BP (T:=T) (bx:=bx) with h'|h'<;>(rw [h'] at h;cases h)};{exact fE (Qq4 _)}
  ·split;{split;{exact fE va};{exact fE (Qq4 _)}};{exact fE (Qq4 _)}
  ·exact fE (Qq4 _)
 all_goals
  first
  | exact λ_=>rfl
  | exact fE (Qq4 _)
  | ((repeat' split)<;>first|exact fE (Qq4 _)|exact fE (Qq2 _)|exact fE rQ|(unfold Br;(repeat' split)<;>first|exact fE (Qq4 _)|exact fE (Qq2 _)))
def EE {st st2:St}{op:Op}(h:∀t∈jT op,st2.ax t=st.ax t):cR st2.bC (jS op)=cR st.bC (jS op):=
 fR _ λ_ a=>qR h (A6 a)
def qU {h:Hint}{o:Oper}{st:St}{V:ut}{K:St->ut->Prop}{R W:pz Nat}(hq:pZ (bG LF RF o.op)=true)(hrw:uR (bG LF RF o.op) h (fN o)=some (R,W))
  (hv:dR P T m h o st V K):∃p q,Outcome P T m h o st V R W K p q:=by
 have core:(∀g:St,(∀t∈jT o.op,g.ax t=st.ax t)->(∀s∈R,g.boxes s=st.boxes s)->aS T g.bC g.boxes o.op=aS T st.bC st.boxes o.op) ->
   (∀C b x,aS T st.bC st.boxes o.op=.new C b x->fN o=W/\fN o=R)->(∀C s b,aS T st.bC st.boxes o.op=.yw C s b->s∈W) ->
   (∀(g:St)(V2:ut)(D:St->ut->Prop),(∀t∈jT o.op,g.ax t=st.ax t)->dY P T m o g V2 D->dR P T m h o g V2 D) ->
   dY P T m o st V K->∃p q,Outcome P T m h o st V R W K p q:=by
  intro he Q hu B hv;rw [Bt hq] at hv
  have ⟨p,q,S,U,X,Y⟩:=Vv (R:=R) (W:=W) Q hu (λn=>by
   obtain ⟨Z,d,E⟩:=(ir (T:=T) (ρ:=st.bC) (bx:=st.boxes) (op:=o.op)).2.2 n;rw [d] at hq;obtain ⟨F,args,J⟩:=Z;dsimp only at E;subst E;cases hq) hv
  refine ⟨p,q,S,U,X,λg V2 D hle G H hK=>?_⟩;refine B g V2 D G ?_;rw [Bt hq,he g G H];exact Y g V2 D hle H hK
 have L:bG LF RF o.op=.pure\/bG LF RF o.op=.alloc->h=.free->(bG LF RF o.op=.alloc->R=fN o/\W=fN o)->∃p q,Outcome P T m h o st V R W K p q:=by intro j hf hd;subst hf;refine core (λg z _=>?_) (λC b x n=>?_) (λC s b n=>?_) (λ_ _ _ _ B=>B) hv;{rw [Sn (bx':=st.boxes) j];exact pY λx I=>qR z I};{have:=hd (tv (by rw [n];rfl));exact ⟨this.2.symm,this.1.symm⟩};{rcases (ir (T:=T) (ρ:=st.bC) (bx:=st.boxes) (op:=o.op)).1 (by rw [n];rfl) with ⟨t,y,x,d⟩|⟨⟨F,args,J⟩,d,E⟩;{rw [d] at j;rcases j with j|j<;>cases j};{dsimp only at E;subst E;rw [d] at j;rcases j with j|j<;>cases j}}
 generalize j:bG LF RF o.op=c at hrw hq L
 cases c with
 | pure=>
  cases h with
  | free=>exact L (.inl rfl) rfl (λe=>by cases e)
  | own l=>cases hrw
 | alloc=>
  cases h with
  | free=>
   simp only [uR,Qw1,Qm4] at hrw;exact L (.inr rfl) rfl (λ_=>⟨hrw.1.symm,hrw.2.symm⟩)
  | own l=>cases hrw
 | load=>
  cases h with
  | free=>cases hrw
  | own l=>
   simp only [uR,Qw1,Qm4] at hrw;obtain ⟨rfl,rfl⟩:=hrw
   have d:∃t a,o.op=.load t a:=by
    generalize o.op=op at j
    cases op with
    | load t a=>exact ⟨t,a,rfl⟩
    | call c=>obtain ⟨F,args,J⟩:=c;cases F with
     | builtin b=>cases b<;>cases j
     | value f=>cases f with
      | func f=>simp only [bG] at j;split at j<;>(try split at j)<;>(try split at j)<;>(try split at j)<;>cases j
      | _=>cases j
     | _=>cases j
    | _=>cases j
   obtain ⟨t,a,d⟩:=d;unfold dR at hv;dsimp only at hv;split at hv
   ·rename_i xs r;split at hv;{rename_i k;have M:∀v,st.bC a=some v->∀s∈v.ids,s∈l:=by{intro v tM s z;rw [BJ] at k;apply k;rw [d] at r;have ⟨u,hu,hm⟩:=wK r a (by simp [jS]);rw [d];simp only [fY];grind};refine core (λg z B=>?_) (λC b x n=>?_) (λC s b n=>?_) (λg V2 D z B=>?_) hv;{rw [d] at z ⊢;rw [pY (ρ':=st.bC) λx I=>qR z I];simp only [aS];grind [Sq]};{have:=tv (LF:=LF) (RF:=RF) (op:=o.op) (T:=T) (ρ:=st.bC) (bx:=st.boxes) (by rw [n];rfl);rw [d] at this;cases this};{rcases (ir (T:=T) (ρ:=st.bC) (bx:=st.boxes) (op:=o.op)).1 (by rw [n];rfl) with ⟨t,y,x,A⟩|⟨c,A,-⟩<;>(rw [d] at A;cases A)};{unfold dR;dsimp only;rw [EE z,r];dsimp only;have:fY g.boxes o.op (xs.flatMap SV.ids)=fY st.boxes o.op (xs.flatMap SV.ids):=by{rw [d];rfl};rw [this,k];exact B}};{exact hv.elim}
   ·exact hv.elim
 | store=>
  cases h with
  | free=>cases hrw
  | own l=>
   simp only [uR,Qw1,Qm4] at hrw;obtain ⟨rfl,rfl⟩:=hrw
   have d:∃t a x,o.op=.store t a x:=by
    generalize o.op=op at j
    cases op with
    | store t a x=>exact ⟨t,a,x,rfl⟩
    | call c=>obtain ⟨F,args,J⟩:=c;cases F with
     | builtin b=>cases b<;>cases j
     | value f=>cases f with
      | func f=>simp only [bG] at j;split at j<;>(try split at j)<;>(try split at j)<;>(try split at j)<;>cases j
      | _=>cases j
     | _=>cases j
    | _=>cases j
   obtain ⟨t,a,y,d⟩:=d;unfold dR at hv;dsimp only at hv;split at hv
   ·rename_i xs r;split at hv;{rename_i k;have M:∀v,st.bC a=some v->∀s∈v.ids,s∈l:=by{intro v tM s z;rw [BJ] at k;apply k;rw [d] at r;have ⟨u,hu,hm⟩:=wK r a (by simp [jS]);rw [d];simp only [fY];grind};refine core (λg z B=>?_) (λC b x n=>?_) (λC s b n=>?_) (λg V2 D z B=>?_) hv;{rw [d] at z ⊢;rw [pY (ρ':=st.bC) λx I=>qR z I];simp only [aS];split;{rename_i i v w hi N hw;exact (OQ λs O=>B s (M v N s O)).symm};{rfl}};{have:=tv (LF:=LF) (RF:=RF) (op:=o.op) (T:=T) (ρ:=st.bC) (bx:=st.boxes) (by rw [n];rfl);rw [d] at this;cases this};{rw [d] at n;simp only [aS] at n;split at n;{rename_i i v w hi N hw;exact M v N s (K8 n)};{cases n}};{unfold dR;dsimp only;rw [EE z,r];dsimp only;have:fY g.boxes o.op (xs.flatMap SV.ids)=fY st.boxes o.op (xs.flatMap SV.ids):=by{rw [d];rfl};rw [this,k];exact B}};{exact hv.elim}
   ·exact hv.elim
 | _=>cases hq
end Go.Eng
namespace Go.Eng
variable {P:Program} {T:eu} {LF RF:List Nat} {m:CM}
def Good (p:Nat->Option SV)(q:Nat->Option aW)(W D:List Nat)(st:St)(V:View)(K:St->View->Prop):St->View->Prop:=
 λst2 V2=>V.Le V2/\(∀t,t∉D->st2.ax t=st.ax t)/\(∀s,s∉W->st2.boxes s=st.boxes s)/\K (ov p q st2) V2
def tP {bx bx':Nat->Option aW}:∀{l:pz Nat},(∀s∈l,bx' s=bx s)->l.flatMap (nK bx')=l.flatMap (nK bx)
 | [],_=>rfl
 | s::r,h=>by
  simp only [Qy0];rw [tP λs hs=>h s (by simp [hs])];simp only [nK];rw [h s (by simp)]
def p_ {bx bx':Nat->Option aW}:∀(n:Nat)(l:pz Nat),(∀s∈reach bx n l,bx' s=bx s)->reach bx' n l=reach bx n l
 | 0,_,_=>rfl
 | n+1,l,h=>by
  have hl:∀s∈l,bx' s=bx s:=λs a=>h s (f_ (n+1) l s a);simp only [reach] at h ⊢;rw [tP hl];exact p_ n _ h
def C7 {bx bx':Nat->Option aW}{l:pz Nat}(h:∀s∈l,bx' s=bx s):ju bx' l=ju bx l:=by unfold ju;rw [Qk7,Qz4,Qz4];constructor;{intro g s a;have:=g s a;simp only [nK] at this ⊢;rw [h s a] at this;exact this};{intro g s a;have:=g s a;simp only [nK] at this ⊢;rw [h s a];exact this}
def fk:∀{L:pz Nat} {β:Nat->Nat} {k k':(Nat->Nat)->Prop},(∀β,k β->k' β)->mP L β k->mP L β k'
 | [],_,_,_,h,g=>h _ g
 | _::_,_,_,_,h,g=>λb=>fk h (g b)
def Bc {bx bx':Nat->Option aW}{b:aW}{β:Nat->Nat}{s:Nat}:∀{r:pz Nat} {k k':Prop},(∀t∈r,bx' t=bx t)->(k->k')->WK bx b β s r k->WK bx' b β s r k'
 | [],_,_,_,h,g=>h g
 | t::r,k,k',hb,h,g=>by
  have hr:=λt a=>hb t (Qq8 _ a);simp only [WK] at g ⊢;rw [hb t (by simp)]
  cases hbq:Nat.beq s t with
  | true=>rw [hbq] at g;exact Bc hr h g
  | false=>
   rw [hbq] at g;simp only [cond_false] at g ⊢;split at g
   ·exact λc=>Bc hr h (g c)
   ·exact g
def ll {bx bx':Nat->Option aW}{β:Nat->Nat}{V:ut}:∀{L:pz Nat} {k k':Prop},(∀s∈L,bx' s=bx s)->((∀s∈L,∃b,bx s=some b/\(b.live->V.H (β s)))->k->k')->jY bx β V L k->jY bx' β V L k'
 | [],_,_,_,h,g=>h (λs hs=>absurd hs (by simp)) g
 | s::r,k,k',hb,h,g=>by
  have hr:=λt a=>hb t (Qq8 _ a);simp only [jY] at g ⊢;rw [hb s (by simp)];split at g
  ·rename_i b c;refine λd e=>ll hr (λi=>Bc hr (λf=>h (λt a=>?_) f)) (g d e)<;>grind [kd.1]
  ·exact g
def mh {mv:Option (Nat×Nat)}:∀{cs zs:pz C} {K K':pz C->Prop},(∀c,K c->K' c)->nZ mv cs zs K->nZ mv cs zs K'
 | [],_,_,_,h,g=>h _ g
 | _::_,[],_,_,_,g=>g.elim
 | c::r,z::zr,K,K',h,g=>by
  simp only [nZ] at g ⊢;split at g
  ·split at g
   ·split at g
    ·obtain ⟨n,c,g⟩:=g;exact ⟨n,c,mh (λcs a=>h _ a) g⟩
    ·exact g.elim
   ·exact g.elim
  ·split at g
   ·have ⟨v,b,d⟩:=CF.split _ g;rename_i e;rw [e] at *;exact d _ (mh (λcs a=>h _ a) b)
   ·exact mh (λcs a=>h _ a) g
variable {p:Nat->Option SV} {q:Nat->Option aW}
def mj {mv:Option (Nat×Nat)}{β:Nat->Nat}{V:ut}{W:pz Nat}:∀{L:pz Nat} {st:St} {k k':St->Prop},(∀s∈L,q s=none/\s∈W) ->
  (∀st',(∀t,st'.ax t=st.ax t)->(∀s,s∉W->st'.boxes s=st.boxes s)->k (ov p q st')->k' st')->fP T mv β V L (ov p q st) k->fP T mv β V L st k'
 | [],st,k,k',_,h,g=>h st (λ_=>rfl) (λ_ _=>rfl) g
 | s::r,st,k,k',hq,h,g=>by
  have ⟨Yf,hsW⟩:=hq s (by simp);have f:∀s∈r,q s=none/\s∈W:=λs j=>hq s (by simp [j])
  have a:∀b:aW,∀d:St->Prop,(∀st',d st'=k st')->fP T mv β V r ((ov p q st).box s b) d->fP T mv β V r (st.box s b) k':=by
   intro b d e g;rw [oD Yf] at g;refine mj f (λst' l o c=>h st' l (λu m=>?_) (by rw [←e];exact c)) g<;>grind [aj]
  simp only [fP] at g ⊢;rw [cM Yf] at g;split at g
  ·rename_i cs ty v;split at g;{rename_i i w;exact mh (λn c=>⟨c.1,a _ _ (λ_=>rfl) c.2⟩) g};{exact g}
  ·grind
  ·grind
  ·exact g
def zu (V:ut)(l:pz Nat):V.Le (V.ar l):=λ_ _ h=>h
def MF (V:ut):V.Le V.shut:=λ_ _ h=>h
def AQ {V V' fu:ut}{P:Prop}{b:Nat}(h:V.Le fu)(h':V.Le V')(hb:P->V'.w.heap.size<=b\/V'.H b):V.Le (fu.shut.bu P b):=by intro x o c;have ⟨d,f⟩:=h x o c;have ⟨g,i⟩:=h' x o c;refine ⟨λa=>?_,f⟩;rcases a with a|⟨j,e,-⟩;{exact d a};grind
def RH {m:Option Nat}{d:Nat}:gT m d=d\/gT m d=d+200000:=by (cases m with|none=>exact .inl rfl|some m=>{simp only [gT,rK];grind})
def oz {give:md}{sh:Sh}{L:pz Nat}{mm:Option Nat}{d:Nat}{ety:TypeId}{β:Nat->Nat}{st:St}{V V' fu:ut}{K K':St->ut->Prop}{W D:pz Nat}{r':un}
  (hL:∀s∈L,q s=none/\s∈W)(hm:∀k,mm=some k->k∈L)(hp:p d=none/\d∈D)(hq:q (gT mm d)=none/\gT mm d∈W)(hV:V.Le V')(hV2:V.Le fu)
  (hlv:∀s∈L,∃b,st.boxes s=some b/\(b.live->V'.H (β s)))(hK:∀s2 V2,Good p q W D st V K s2 V2->K' s2 V2)
  (h:cI T give sh L mm d ety β (ov p q st) V' K r' fu):cI T give sh L mm d ety β st V' K' r' fu:=by unfold cI at h ⊢;obtain ⟨g,a,u,v,y⟩:=h;have i:a≠[]->V'.w.heap.size<=g\/Cz mm st β g:=by{intro c;refine (v c).imp id λh=>?_;unfold Cz at h ⊢;grind [cM]};have z:a≠[]->V'.w.heap.size<=g\/V'.H g:=by{intro c;refine (i c).imp id λh=>?_;unfold Cz at h;(cases mm with|none=>exact h.elim|some k=>{dsimp only at h;have ⟨A,n,B⟩:=hlv k (hm k rfl);rw [n] at h;obtain ⟨cs,ty⟩:=A;cases cs<;>grind [dM,dN,fZ]})};refine ⟨g,a,u,i,Sh.s y λx r=>⟨r.1,?_⟩⟩;have C:(um mm ety (ov p q st)).box (gT mm d) ⟨.aB a,ety⟩=ov p q ((um mm ety st).box (gT mm d) ⟨.aB a,ety⟩):=by{(cases mm with|none=>exact oD hq.1|some k=>{simp only [um];grind [oD]})};have j:=r.2;rw [C] at j;have l:∀s∈Ix mm L,q s=none/\s∈W:=by{intro s f;(cases mm with|none=>exact hL s f|some k=>exact hL s (A8.1 f).1)};refine mj l (λo E F m=>?_) j;rw [lB (λk m=>by cases m;exact hp.1)] at m;refine hK _ _ ⟨AQ hV2 hV z,?_,?_,m⟩;{intro t G;rw [eO,if_neg (λe=>G (by rw [e];exact hp.2)),E];cases mm<;>rfl};{intro s f;show o.boxes s=_;rw [F s f,aj,if_neg (λe=>f (by rw [e];exact hq.2))];(cases mm with|none=>rfl|some k=>{simp only [um];rw [aj,if_neg (λe=>f (by rw [e];exact (hL k (hm k rfl)).2))]})}
theorem Rw {bx:Nat->Option aW}{L:pz Nat}(hcl:ju bx L=true):∀k,k∈uF bx L->k∈L:=by
 intro k a;unfold uF at a;have ⟨s,b,a⟩:=Qy1.1 (cA.1 a);split at a
 ·rename_i cs ty d;refine fM hcl b d k ?_
  have:∀cs:pz C,k∈sU cs->k∈cs.flatMap C.ids:=by
   intro cs
   induction cs with
   | nil=>exact λh=>nomatch h
   | cons c r ih=>
    intro h;rw [Qy0,Qw3]
    cases c<;>simp only [sU,Qq5] at h<;>first
     | exact .inr (ih h)
     | (rcases h with h|h
        ·left;simp [C.ids,h]
        ·exact .inr (ih h))
  exact this cs a
 ·cases a
theorem Av {xs:pz SV}:∀k,k∈oa xs->k∈xs.flatMap SV.ids:=by
 intro k
 induction xs with
 | nil=>exact λh=>nomatch h
 | cons x r ih=>
  intro h;rw [Qy0,Qw3];unfold oa at h;split at h
  ·rename_i heq;cases heq
  ·rename_i s n c a heq;cases heq;exact .inl h
  ·rename_i s n c a heq;cases heq;exact .inl h
  grind
def xF {bx bx':Nat->Option aW}{L:pz Nat}(h:∀s∈L,bx' s=bx s):uF bx' L=uF bx L:=by
 unfold uF;congr 1
 induction L<;>grind
def iI {st:St}{mm:Option Nat}{d:Nat}(h:q (gT mm d)=none):lr (ov p q st) mm d=lr st mm d:=by unfold lr;rw [cM h]
def xD {bx bx':Nat->Option aW}{β:Nat->Nat}{N:Nat}{L:pz Nat}(h:∀s∈L,bx' s=bx s):L.map (eN bx' β N)=L.map (eN bx β N):=
 Qv2 λs a=>by unfold eN;rw [h s a]
def Cy:∀{L:pz Nat} {st:St},(∀s∈L,q s=none)->eG (ov p q st) L 0=ov p q (eG st L 0)
 | [],_,_=>rfl
 | s::r,st,h=>by
  show eG ((ov p q st).box s ⟨.aB [],0⟩) r 0=ov p q (eG (st.box s ⟨.aB [],0⟩) r 0);rw [oD (h s (by simp))];exact Cy λs hs=>h s (by simp [hs])
def wM {bx bx':Nat->Option aW}{β:Nat->Nat}{V:ut}:∀{L:pz Nat} {k k':Prop},(∀s∈L,bx' s=bx s)->(k->k')->sZ bx β V L k->sZ bx' β V L k'
 | [],_,_,_,h,g=>h g
 | s::r,k,k',hb,h,g=>by
  simp only [sZ] at g ⊢;rw [hb s (by simp)];split at g
  ·exact λh1=>wM (λt ht=>hb t (Qq8 _ ht)) h (g h1)
  ·exact g.elim
def ko {f:FuncId}{xs:pz SV}{ty:TypeId}{dst:Option Nat}{st:St}{V:ut}{K:St->ut->Prop}{W D:pz Nat}
  (hm:m=.none\/((m=.ar\/m=.give)/\(∀s∈reach (ov p q st).boxes 3 (dedup (xs.flatMap SV.ids)),q s=none/\s∈W)/\∀k,dst=some k->∀mm,q (gT mm k)=none/\gT mm k∈W))(hd:∀k,dst=some k->p k=none/\k∈D)
  {K':St->ut->Prop}(hK:∀s2 V2,Good p q W D st V K s2 V2->K' s2 V2)(hv:hZ P T m f xs ty dst (ov p q st) V K):hZ P T m f xs ty dst st V K':=by
 have A:∀(n:St)(x:SV),(∀t,n.ax t=st.ax t)->∀t,t∉D->(n.put dst x).ax t=st.ax t:=by intro n x h t c;(cases dst with|none=>exact h t|some d=>{rw [eO,if_neg (λe=>c (by rw [e];exact (hd d rfl).2))];exact h t})
 have G:∀(n:St)(x:SV),(n.put dst x).boxes=n.boxes:=by intro n x;cases dst<;>rfl
 unfold hZ at hv ⊢;split at hv
 ·exact hv.elim
 ·rename_i X a2
  have H:∀L,reach (ov p q st).boxes 3 (dedup (xs.flatMap SV.ids))=L->(∀s∈L,q s=none)->reach st.boxes 3 (dedup (xs.flatMap SV.ids))=L:=by intro L hL Z;rw [←hL];exact p_ 3 _ λs y=>(cM (Z s (by rw [←hL];exact y))).symm
  have Wo:∀s∈xs.flatMap SV.ids,s∈reach (ov p q st).boxes 3 (dedup (xs.flatMap SV.ids)):=λs y=>f_ 3 _ s (cA.2 y);generalize hr:reach (ov p q st).boxes 3 (dedup (xs.flatMap SV.ids))=L at hv hm Wo
  cases L with
  | nil=>
   rw [H _ hr (λs y=>nomatch y)]
   have plain:(∀g:ut,V.Le g->aa P f (aH (λ_=>0) xs) g λr B=>X.ex λx=>r=x.den (λ_=>0)/\K ((ov p q st).put dst x) B) ->
     ∀g:ut,V.Le g->aa P f (aH (λ_=>0) xs) g λr B=>X.ex λx=>r=x.den (λ_=>0)/\K' (st.put dst x) B:=by
    intro hv g b;refine (hv g b).s λr B hle l=>Sh.s l λx C=>⟨C.1,?_⟩;have z:=C.2;rw [lB (λk l=>(hd k l).1)] at z;exact hK _ _ ⟨b.m hle,A st x λ_=>rfl,λs _=>by rw [G],z⟩
   rcases hm with rfl|⟨rfl|rfl,-,i⟩
   ·exact plain hv
   ·exact plain hv
   ·dsimp only at hv ⊢;split at hv;{rename_i d o a3;rw [iI (i d rfl Option.none).1] at hv;split at hv;{exact hv.elim};{rename_i u;intro g b;refine (hv g b).s λr B hle l=>?_;exact oz (W:=W) (D:=D) (λs y=>absurd y (by simp)) (λk l=>by cases l) (hd d rfl) (i d rfl Option.none) b (b.m hle) (λs y=>absurd y (by simp)) hK l}};{exact plain hv};{exact hv.elim}
  | cons s r=>
   dsimp only at hv;split at hv
   ·exact hv.elim
   ·rename_i M
    have ar:m=.ar\/m=.give->(∀t∈s::r,q t=none/\t∈W)->(∀k,dst=some k->∀mm,q (gT mm k)=none/\gT mm k∈W) ->
      ∀{give:md} {mm:Option Nat} {d:Nat} {o:TypeId},dst=some d->(∀k,mm=some k->k∈s::r) ->
      (∀g:ut,V.Le g->mP (s::r) (λ_=>0) λβ=>jY (ov p q st).boxes β g (s::r) (aa P f (aH β xs) (g.ar ((s::r).map (eN (ov p q st).boxes β g.w.heap.size))) (cI T give X (s::r) mm d o β (ov p q st) g K))) ->
      ∀g:ut,V.Le g->mP (s::r) (λ_=>0) λβ=>jY st.boxes β g (s::r) (aa P f (aH β xs) (g.ar ((s::r).map (eN st.boxes β g.w.heap.size))) (cI T give X (s::r) mm d o β st g K')):=by
     intro _ a i give mm d o E N hv g b;have F:∀t∈s::r,st.boxes t=(ov p q st).boxes t:=λt c=>(cM (a t c).1).symm;refine fk (λβ I=>?_) (hv g b);rw [xD (bx:=(ov p q st).boxes) F];refine ll (bx:=(ov p q st).boxes) F (λhH v=>?_) I;refine v.s λr' B hle l=>?_;have O:V.Le B:=(b.m (zu g _)).m hle;exact oz a N (hd d E) (i d E mm) b O (λt c=>by rw [F t c];exact hH t c) hK l
    have base:m=.ar\/m=.give->(∀t∈s::r,q t=none/\t∈W)/\(∀k,dst=some k->∀mm,q (gT mm k)=none/\gT mm k∈W):=by intro h;rcases hm with rfl|⟨-,Q,z⟩;{rcases h with h|h<;>cases h};{exact ⟨Q,z⟩}
    have R:(∀t∈s::r,q t=none/\t∈W)->ju st.boxes (s::r)=true:=λa=>by rw [C7 (bx:=(ov p q st).boxes) (λt c=>(cM (a t c).1).symm)];exact M
    split at hv
    ·exact hv.elim
    ·exact hv.elim
    ·have ⟨a,i⟩:=base (.inr rfl);rw [H _ hr (λt c=>(a t c).1)];dsimp only;rw [R a];dsimp only;have J:=xF (bx:=(ov p q st).boxes) (bx':=st.boxes) (L:=s::r) (λt c=>(cM (a t c).1).symm);rw [J];split at hv;{rename_i d o Q z h3;rw [iI (i d rfl _).1] at hv;split at hv;{exact hv.elim};{rename_i u;exact ar (.inr rfl) a i rfl (λk l=>by cases l) hv}};{rename_i d o k Q z h3;have S:k∈s::r:=Wo k (Av k (by rw [z];simp));have a0:Gp (ov p q st).boxes k o=Gp st.boxes k o:=by{unfold Gp;rw [cM (a k S).1]};rw [a0] at hv;split at hv;{rw [iI (i d rfl _).1] at hv;split at hv;{exact hv.elim};{rename_i u;exact ar (.inr rfl) a i rfl (λj hj=>by cases hj;exact S) hv}};{rw [Cy (λt c=>(a t c).1),iI (i d rfl _).1] at hv;split at hv;{exact hv.elim};{rename_i u;split at hv;{exact hv.elim};{intro g b;refine fk (λβ I=>?_) (hv g b);refine wM (bx:=(ov p q st).boxes) (λt c=>(cM (a t c).1).symm) (λv=>?_) I;refine v.s λr' B hle l=>?_;exact oz (W:=W) (D:=D) (st:=eG st (s::r) 0) (λs y=>absurd y (by simp)) (λk l=>by cases l) (hd d rfl) (i d rfl Option.none) b (b.m hle) (λs y=>absurd y (by simp)) (λs2 V2 Y=>hK s2 V2 ⟨Y.1,λt c=>(Y.2.1 t c).m (by rw [jI]),λt c=>(Y.2.2.1 t c).m (by rw [br,if_neg λh=>c (a t h).2]),Y.2.2.2⟩) l}}}};{split at hv;{exact hv.elim};{rw [Cy (λt c=>(a t c).1)] at hv;intro g b;refine fk (λβ I=>?_) (hv g b);refine wM (bx:=(ov p q st).boxes) (λt c=>(cM (a t c).1).symm) (λv=>?_) I;refine v.s λr' B hle l=>Sh.s l λx C=>⟨C.1,?_⟩;have z:=C.2;rw [lB (λk l=>(hd k l).1)] at z;exact hK _ _ ⟨b.m hle,A (eG st (s::r) 0) x λt=>by rw [jI],λt c=>by rw [G,br,if_neg λh=>c (a t h).2],z⟩}};{exact hv.elim}
    ·have ⟨a,i⟩:=base (.inl rfl);rw [H _ hr (λt c=>(a t c).1)];dsimp only;rw [R a];dsimp only;have F:∀t∈s::r,st.boxes t=(ov p q st).boxes t:=λt c=>(cM (a t c).1).symm;have J:=xF (bx:=(ov p q st).boxes) (bx':=st.boxes) (L:=s::r) F;rw [J];split at hv;{intro g b;refine fk (λβ I=>?_) (hv g b);rw [xD (bx:=(ov p q st).boxes) F];refine ll (bx:=(ov p q st).boxes) F (λ_ v=>?_) I;refine v.s λr' B hle l=>Sh.s l λx C=>⟨C.1,?_⟩;refine mj a (λn Q z l=>?_) C.2;rw [lB (λk l=>(hd k l).1)] at l;exact hK _ _ ⟨((b.m (zu g _)).m hle).m (MF _),A n x Q,λt c=>by rw [G];exact z t c,l⟩};{rename_i k l;have U:k∈s::r:=Rw M k (by rw [l];simp);have a1:mR st.boxes k=mR (ov p q st).boxes k:=by{unfold mR;rw [F k U]};rw [a1];split at hv;{rename_i d o a4;rw [iI (i d rfl _).1] at hv;split at hv;{exact hv.elim};{rename_i u;exact ar (.inl rfl) a i rfl (λj hj=>by cases hj;exact U) hv}};{exact hv.elim}};{exact hv.elim}
    grind
def I6 {bx:Nat->Option aW}:∀(n:Nat) {l l':pz Nat},(∀x∈l,x∈l')->∀x∈reach bx n l,x∈reach bx n l'
 | 0,_,_,h,x,hx=>h x hx
 | n+1,l,l',h,x,hx=>by
  simp only [reach] at hx ⊢;refine I6 n (λy hy=>?_) x hx<;>grind [cA]
def xS {f:FuncId}{xs:pz SV}{ty:TypeId}{dst:Option Nat}{st:St}{V:ut}{K:St->ut->Prop}{W D:pz Nat}
  (hm:m=.none\/((m=.ar\/m=.give)/\(∀s∈reach (ov p q st).boxes 3 (dedup (xs.flatMap SV.ids)),q s=none/\s∈W)/\∀k,dst=some k->∀mm,q (gT mm k)=none/\gT mm k∈W))(hd:∀k,dst=some k->p k=none/\k∈D)
  {K':St->ut->Prop}(hK:∀s2 V2,Good p q W D st V K s2 V2->K' s2 V2)(hv:mJ P T m f xs ty dst (ov p q st) V K):mJ P T m f xs ty dst st V K':=by have a:=hm;(cases m with|ar=>{obtain ⟨d,g⟩:(∀s∈reach (ov p q st).boxes 3 (dedup (xs.flatMap SV.ids)),q s=none/\s∈W)/\∀k,dst=some k->∀mm,q (gT mm k)=none/\gT mm k∈W:=by{grind};unfold mJ at hv ⊢;dsimp only at hv ⊢;rw [uZ (bx:=st.boxes) (bx':=(ov p q st).boxes) (λs b=>cM (d s (f_ 3 _ s (cA.2 b))).1)] at hv;split at hv;{rename_i j c h e;exact ⟨λhe=>⟨(hv.1 he).1,ko (.inr ⟨.inl rfl,λs b=>d s (I6 3 (λx i=>cA.2 (BI e x (cA.1 i))) s b),g⟩) hd hK (hv.1 he).2⟩,λhe=>ko a hd hK (hv.2 he)⟩};{exact ko a hd hK hv}}|_=>exact ko a hd hK hv)
theorem F8 {p2:Nat->Option SV}{q2:Nat->Option aW}{st:St}(hp:∀t,p t=none\/p2 t=none)(hq:∀t,q t=none\/q2 t=none):ov p q (ov p2 q2 st)=ov p2 q2 (ov p q st):=by unfold ov;grind
def Fg:Q->Option Nat
 | .app old _ _ _ _ _ _ _ _=>old
 | .wH s _ _ _ _ _ _ _=>some s
 | _=>none
def MV (T:eu)(bx:Nat->Option aW)(l:Option (List SV))(ts:List TypeId):Q:=
 match l,ts with
 | some [b,x],[t,t']=>match aC T t,aC T t' with
  | some i,some i'=>match i.k,i'.k with
   | .slice e,.slice _=>match aC T e with
    | some ei=>df bx e ei b x
    | none=>.fail
   | _,_=>.fail
  | _,_=>.fail
 | _,_=>.fail
def Fh (bx:Nat->Option aW)(sz:Nat)(x:SV):Option (OA×Nat ⊕ List Value):=
 match x with
 | .c (.v (.slice a k _))=>some (.inl (a,k))
 | .c (.oI s o k _)=>match bx s with
  | some ⟨.row ws,_⟩=>some (.inr (aA ws o (k*sz)))
  | _=>match fV bx s with
   | some ws=>if Nat.ble (o+k*sz) ws.length then some (.inr ((ws.drop o).take (k*sz))) else none
   | none=>none
 | .c (.eJ s k c)=>match bx s with
  | some ⟨.aB ws,_⟩=>some (.inr (qg ws k c sz))
  | _=>none
 | _=>none
def Mf (bx:Nat->Option aW)(e:TypeId)(ei:TI)(b:SV)(src:OA×Nat ⊕ List Value):Q:=
 match b with
 | .c (.v (.slice a n c))=>.app none a [] n c src ei.size ei.bytes e
 | .c (.oI s 0 n c)=>match fV bx s,mR bx s with
  | some vs,some ty=>if Nat.beq ty e then .app (some s) none vs n c src ei.size ei.bytes e else .fail
  | _,_=>.fail
 | .c (.eJ s n c)=>match bx s with
  | some ⟨.aB vs,ty⟩=>if Nat.beq ty e then .wH s vs n c src ei.size ei.bytes e else .fail
  | _=>.fail
 | _=>.fail
def Bq {bx:Nat->Option aW}{e:TypeId}{ei:TI}{b x:SV}:df bx e ei b x=match mu ei.zero with
  | none=>.fail
  | some zs=>if Nat.beq ei.bytes 0||Nat.beq ei.size 0||!(Nat.beq ei.size zs.length) then .fail else match Fh bx ei.size x with
   | none=>.fail
   | some src=>Mf bx e ei b src:=rfl
def Nt {bx bx':Nat->Option aW}{sz:Nat}{x:SV}:(∀s∈x.ids,bx' s=bx s)->Fh bx sz x=Fh bx' sz x:=by unfold Fh;split;{exact λ_=>rfl};{intro h;unfold fV;rw [h _ (by simp [SV.ids,C.ids])]};{intro h;rw [h _ (by simp [SV.ids,C.ids])]};{exact λ_=>rfl}
theorem PB {bx bx':Nat->Option aW}{e:TypeId}{ei:TI}{b:SV}{src:OA×Nat ⊕ pz un}:(∀s∈b.ids,bx' s=bx s)->Mf bx e ei b src=Mf bx' e ei b src:=by unfold Mf;split;{exact λ_=>rfl};{intro h;unfold fV mR;rw [h _ (by simp [SV.ids,C.ids])]};{intro h;rw [h _ (by simp [SV.ids,C.ids])]};{exact λ_=>rfl}
def K1 {bx bx':Nat->Option aW}{e:TypeId}{ei:TI}{b x:SV}(h:∀s∈b.ids++x.ids,bx' s=bx s):df bx e ei b x=df bx' e ei b x:=by rw [Bq,Bq,Nt λs a=>h s (Qk6 _ a)];grind [PB]
def IZ {bx:Nat->Option aW}{e:TypeId}{ei:TI}{b x:SV}:∀s,Fg (df bx e ei b x)=some s->s∈b.ids:=by intro s h;unfold df at h;split at h;{cases h};{split at h;{cases h};{dsimp only at h;split at h;{cases h};{split at h;{cases h};{split at h;{split at h;{cases h;simp [SV.ids,C.ids]};{cases h}};{cases h}};{split at h;{split at h;{cases h;simp [SV.ids,C.ids]};{cases h}};{cases h}};{cases h}}}}
def U3 {bx bx':Nat->Option aW}{ys:pz SV}{ts:pz TypeId}{R:pz Nat}(h:∀s∈ys.flatMap SV.ids,bx' s=bx s)(hR:∀s∈ys.flatMap SV.ids,s∈R) :
  MV T bx (some ys) ts=MV T bx' (some ys) ts/\∀s,Fg (MV T bx (some ys) ts)=some s->s∈R:=by unfold MV;split;{rename_i b x t d c;cases c;split;{split;{split;{exact ⟨K1 λs a=>h s (by simpa using a),λs a=>hR s (by simp [IZ s a])⟩};{exact ⟨rfl,λs a=>nomatch a⟩}};{exact ⟨rfl,λs a=>nomatch a⟩}};{exact ⟨rfl,λs a=>nomatch a⟩}};{exact ⟨rfl,λs a=>nomatch a⟩}
theorem OL {bx:Nat->Option aW}{e:TypeId}{ei:TI}{b x:SV}:eH (df bx e ei b x)=6\/df bx e ei b x=.fail:=by unfold df;split;{exact .inr rfl};{split;{exact .inr rfl};{dsimp only;split;{exact .inr rfl};{(split<;>(try split)<;>(try split)<;>first|exact .inl rfl|exact .inr rfl)}}}
def Sm {ρ:Operand->Option SV}{bx:Nat->Option aW}{args:Array Operand}{ts:Array TypeId}:eH (aS T ρ bx (.call ⟨.builtin .append,args,ts⟩))=6\/aS T ρ bx (.call ⟨.builtin .append,args,ts⟩)=.fail:=by simp only [aS];split<;>grind [OL]
def GG {Q0:Q}{dst:Option Nat}{st:St}{V:ut}{K K':St->ut->Prop}{W D:pz Nat}(ht:eH Q0=6\/Q0=.fail)
  (ho:∀s,Fg Q0=some s->q s=none/\s∈W)(hd:∀k,dst=some k->(p k=none/\k∈D)/\∀s,q (rK s k)=none/\rK s k∈W)(hd0:∀k,dst=some k->q k=none/\k∈W)
  (hK:∀s2 V2,Good p q W D st V K s2 V2->K' s2 V2)(h:yx Q0 dst (ov p q st) V K):yx Q0 dst st V K':=by (cases Q0 with|wH s vs n c x size bytes ty=>{simp only [yx] at h ⊢;(cases dst with|none=>exact h.elim|some d=>{dsimp only at h ⊢;have ⟨⟨u,v⟩,r⟩:=hd d rfl;have ⟨B,w⟩:=ho s rfl;have core:∀k xs,xE s vs n c size bytes ty d (ov p q st) V K k xs->xE s vs n c size bytes ty d st V K' k xs:=by{rintro k xs ⟨a,f,g,l,j,i⟩;refine ⟨a,f,g,l,j,?_⟩;rw [cM (r s).1] at i;split at i;{exact i.elim};{intro spare y z A;have:=i spare y z A;rw [oD B,oD (r s).1,lB (λk m=>by cases m;exact u)] at this;refine hK _ _ ⟨View.Le.refl V,?_,?_,this⟩;{intro t ht;rw [eO,if_neg (λe=>ht (by rw [e];exact v))];rfl};{intro t ht;show ((st.box s _).box _ _).boxes t=_;grind [aj]}}};grind})}|app old ba vs n c x size bytes ty=>{simp only [yx] at h ⊢;(cases dst with|none=>exact h.elim|some d=>{dsimp only at h ⊢;have ⟨⟨u,v⟩,r⟩:=hd d rfl;(cases old with|some s=>{dsimp only at h ⊢;have ⟨B,w⟩:=ho s rfl;have core:∀k xs,Hk s vs n c size bytes ty d (ov p q st) V K k xs->Hk s vs n c size bytes ty d st V K' k xs:=by{rintro k xs ⟨a,f,g,l,j,i⟩;refine ⟨a,f,g,l,j,?_⟩;rw [cM (r s).1] at i;split at i;{exact i.elim};{intro b J spare y z A;have:=i b J spare y z A;rw [oD B,oD (r s).1,lB (λk m=>by cases m;exact u)] at this;refine hK _ _ ⟨View.Le.refl V,?_,?_,this⟩;{intro t ht;rw [eO,if_neg (λe=>ht (by rw [e];exact v))];rfl};{intro t ht;show ((st.box s _).box _ _).boxes t=_;rw [aj,if_neg (λe=>ht (by rw [e];exact (r s).2)),aj,if_neg (λe=>ht (by rw [e];exact w))]}}};(cases x with|inr xs=>exact core _ _ h|inl ak=>{obtain ⟨xs,a,f,g⟩:=h;exact ⟨xs,a,f,core _ _ g⟩})}|none=>{dsimp only at h ⊢;obtain ⟨C,I⟩:=hd0 d rfl;obtain ⟨o,z,A,E,F,h⟩:=h;have core:∀k xs,Hl o n c size bytes ty d (ov p q st) V K k xs->Hl o n c size bytes ty d st V K' k xs:=by{rintro k xs ⟨a,f,g,l,j⟩;refine ⟨a,f,g,l,?_⟩;rw [cM C] at j;split at j;{exact j.elim};{intro spare y G H;have:=j spare y G H;rw [oD C,lB (λk m=>by cases m;exact u)] at this;refine hK _ _ ⟨View.Le.refl V,?_,?_,this⟩;{intro t ht;rw [eO,if_neg (λe=>ht (by rw [e];exact v))];rfl};{intro t ht;show (st.box d _).boxes t=_;grind [aj]}}};refine ⟨o,z,A,E,F,?_⟩;(cases x with|inr xs=>exact core _ _ h|inl ak=>{obtain ⟨xs,a,f,g,l⟩:=h;refine ⟨xs,a,f,λe=>?_,λe=>core _ _ (l e)⟩;have:=g e;rw [lB (λk m=>by cases m;exact u)] at this;refine hK _ _ ⟨View.Le.refl V,?_,λt ht=>rfl,this⟩;intro t ht;rw [eO,if_neg (λe=>ht (by rw [e];exact v))]})})})}|fail=>exact h.elim|_=>{rcases ht with ht|ht<;>cases ht})
def vR {h:Hint}{o:Oper}{st:St}{V:ut}{K:St->ut->Prop}{R W:pz Nat}
  (hm:pZ (bG LF RF o.op)=true\/(bG LF RF o.op=.call/\m=.none)\/((bG LF RF o.op=.nj/\m=.ar)\/(bG LF RF o.op=.give/\m=.give)\/bG LF RF o.op=.app))
  (hrw:uR (bG LF RF o.op) h (fN o)=some (R,W))(hp:∀t,t∈jT o.op\/t∈fN o->p t=none)(hq:∀s∈R,q s=none)
  (hqW:∀s∈W,q s=none){K':St->ut->Prop}(hK:∀s2 V2,Good p q W (fN o) st V K s2 V2->K' s2 V2)(hv:dR P T m h o (ov p q st) V K):dR P T m h o st V K':=by
 have KM:∀t∈jT o.op,st.ax t=(ov p q st).ax t:=λt ht=>by simp [ov,hp t (.inl ht)]
 rcases hm with hm|hm
 ·have ⟨p2,q2,Y⟩:=qU hm hrw hv;refine Y.again st V _ (View.Le.refl V) KM (λs n=>(cM (hq s n)).symm) ?_;refine hK _ _ ⟨View.Le.refl V,λt ht=>by simp [ov,Y.pd t ht],λs n=>by simp [ov,Y.qd s n],?_⟩;rw [F8];{exact Y.next};{intro t;by_cases h:t∈fN o;{exact .inl (hp t (.inr h))};{exact .inr (Y.pd t h)}};{intro s;by_cases h:s∈W;{exact .inl (hqW s h)};{exact .inr (Y.qd s h)}}
 ·
  have i:∀(x:Operand),x∈o.op.operands.toList->(ov p q st).bC x=st.bC x:=λx J=>UU λt e=>hp t (.inl (A7 J e))
  have w:∀k,o.dst=some k->p k=none/\k∈fN o:=λk D=>by have:k∈fN o:=by{simp [fN,D]};exact ⟨hp k (.inr this),this⟩
  have body:(¬bG LF RF o.op=.app)->∀(hh:∀xs f ss L args z,o.op=.call ⟨.value L,args,z⟩->cR (ov p q st).bC args.toList=some xs->(ov p q st).bC L=some (.c (.CG f ss)) ->
    m=.none\/((m=.ar\/m=.give)/\(∀s∈reach (ov p q st).boxes 3 (dedup ((xs++Ak ss).flatMap SV.ids)),q s=none/\s∈W)/\∀k,o.dst=some k->∀E,q (gT E k)=none/\gT E k∈W)),
    dY P T m o (ov p q st) V K->dY P T m o st V K':=by
   intro a hh hv;unfold dY at hv ⊢;split at hv
   ·rename_i L args z g;have e1:cR (ov p q st).bC args.toList=cR st.bC args.toList:=fR _ λx J=>i x (by rw [g];simp [Op.operands,Call.operands];exact .inr (by simpa using J));have e2:(ov p q st).bC L=st.bC L:=i L (by rw [g];simp [Op.operands,Call.operands]);split at hv;{rename_i xs j;split at hv;{rename_i f ss F;have M:=hh _ _ _ _ _ _ g j F;rw [e1] at j;rw [e2] at F;simp only [j,F];exact xS M w hK hv};{exact hv.elim}};{exact hv.elim}
   ·rename_i recv name args z g;have a3:m=.none:=by{rw [g] at hm;rcases hm with ⟨-,h⟩|⟨h,-⟩|⟨h,-⟩|h;{exact h};{cases h};{cases h};{cases h}};have e1:cR (ov p q st).bC args.toList=cR st.bC args.toList:=fR _ λx J=>i x (by rw [g];simp [Op.operands,Call.operands];exact .inr (by simpa using J));have e2:(ov p q st).bC recv=st.bC recv:=i recv (by rw [g];simp [Op.operands,Call.operands]);split at hv;{rename_i xs j;split at hv;{rename_i t v F;split at hv;{rename_i f QM;rw [e1] at j;rw [e2] at F;simp only [j,F,QM];exact xS (.inl a3) w hK hv};{exact hv.elim}};{exact hv.elim}};{exact hv.elim}
   ·rename_i a0 G;exfalso;have N:bG LF RF o.op=.call\/bG LF RF o.op=.nj\/bG LF RF o.op=.give:=by{rcases hm with ⟨h,-⟩|⟨h,-⟩|⟨h,-⟩|h;{exact .inl h};{exact .inr (.inl h)};{exact .inr (.inr h)};{exact absurd h a}};clear hm a hh;generalize g:o.op=op at N a0 G;(cases op with|call c=>{obtain ⟨Mj,args,z⟩:=c;(cases Mj with|builtin b=>{cases b<;>rcases N with h|h|h<;>cases h}|value f=>exact a0 f args z rfl|invoke r nm=>exact G r nm args z rfl)}|_=>{rcases N with h|h|h<;>cases h})
  have O:∀l:pz Nat,W=l++fN o++(fN o).map (·+ 200000)->∀k,o.dst=some k->∀E,q (gT E k)=none/\gT E k∈W:=by intro l Z k D E;have:gT E k∈W:=by{rw [Z];have a4:=(w k D).2;rcases RH (m:=E) (d:=k) with h|h<;>rw [h]<;>simp [a4]};exact ⟨hqW _ this,this⟩
  have own:∀l:pz Nat,h=.own l->R=l->W=l++fN o++(fN o).map (·+ 200000)->(bG LF RF o.op=.nj\/bG LF RF o.op=.give\/bG LF RF o.op=.app)->(¬bG LF RF o.op=.app->m=.ar\/m=.give)->dR P T m h o st V K':=by
   intro l hh hR Z a6 M;subst hh hR;unfold dR at hv ⊢;dsimp only at hv ⊢;split at hv
   ·rename_i ys u;split at hv
    ·rename_i H;have e0:cR (ov p q st).bC (jS o.op)=cR st.bC (jS o.op):=fR _ λx J=>i x (A6 J);rw [←e0,u];dsimp only;have B:∀s∈fY (ov p q st).boxes o.op (ys.flatMap SV.ids),s∈R:=BJ.1 H
     have e3:fY st.boxes o.op (ys.flatMap SV.ids)=fY (ov p q st).boxes o.op (ys.flatMap SV.ids):=by revert B;unfold fY;split;{intro B;exact p_ 3 _ λs n=>(cM (hq s (B s n))).symm};{exact λ_=>rfl}
     rw [e3,H];dsimp only;have a5:∀s∈R,s∈W:=λs n=>by rw [Z];simp [n]
     by_cases a:bG LF RF o.op=.app
     ·
      have g:∃args z,o.op=.call ⟨.builtin .append,args,z⟩:=by
       generalize o.op=op at a
       cases op with
       | call c=>
        obtain ⟨Mj,args,z⟩:=c
        cases Mj with
        | builtin b=>cases b<;>first|exact ⟨args,z,rfl⟩|cases a
        | value f=>cases f with
         | func f=>simp only [bG] at a;split at a<;>(try split at a)<;>(try split at a)<;>(try split at a)<;>cases a
         | _=>cases a
        | _=>cases a
       | _=>cases a
      obtain ⟨args,z,g⟩:=g
      have e4:aS T st.bC st.boxes o.op=aS T (ov p q st).bC (ov p q st).boxes o.op/\∀s,Fg (aS T st.bC st.boxes o.op)=some s->s∈R:=by have e5:cR (ov p q st).bC args.toList=cR st.bC args.toList:=by{rw [g] at e0;exact e0};have a1:cR st.bC args.toList=some ys:=by{rw [g] at u;rw [←e5];exact u};have I:∀s∈ys.flatMap SV.ids,s∈R:=by{intro s n;refine B s ?_;rw [g];simp only [fY];exact f_ 3 _ s (cA.2 n)};rw [g];simp only [aS];rw [e5,a1];exact U3 (λs n=>by rw [cM (hq s (I s n))]) I
      have Q:yx (aS T (ov p q st).bC (ov p q st).boxes o.op) o.dst (ov p q st) V K:=by unfold dY at hv;rw [g] at hv ⊢;exact hv
      have S:yx (aS T st.bC st.boxes o.op) o.dst st V K'->dY P T m o st V K':=by intro h;unfold dY;rw [g] at h ⊢;exact h
      rw [←e4.1] at Q;refine S ?_
      have a2:∀Q0,aS T st.bC st.boxes o.op=Q0->eH Q0=6\/Q0=.fail:=by intro Q0 hQ;rw [←hQ,g];exact Sm
      generalize hQ0:aS T st.bC st.boxes o.op=Q0 at Q e4
      exact GG (a2 Q0 hQ0) (λs n=>⟨hq s (e4.2 s n),a5 s (e4.2 s n)⟩) (λk D=>⟨w k D,λs=>by
       have:=O R Z k D (some s);exact this⟩) (λk D=>O R Z k D Option.none) hK Q
     ·have U:=M a;refine body a (λxs f ss L args z g j F=>.inr ⟨U,λs n=>?_,O R Z⟩) hv
      have:s∈R:=by
       apply B;rw [g] at u ⊢;simp only [fY]
       have hy:ys.flatMap SV.ids=(xs++Ak ss).flatMap SV.ids:=by
        have:∀(l:pz Operand)(xs:pz SV)(x:Operand)(v:SV),cR (ov p q st).bC l=some xs->(ov p q st).bC x=some v->cR (ov p q st).bC (l++[x])=some (xs++[v]):=by
         intro l
         induction l with
         | nil=>intro xs x v X h2;simp only [cR,Qw1] at X;subst X;simp [cR,h2]
         | cons o r ih=>
          intro xs x v X h2;simp only [cR] at X;split at X
          ·rename_i y l' h3 h4;cases X;simp only [Qd0,cR,h3,ih _ x v h4 h2]
          ·cases X
        simp only [jS] at u;rw [this _ _ _ _ j F] at u;cases u;simp only [Qc1];congr 1;simp [Ak,SV.ids,C.ids,List.flatMap_map]
       grind
      grind
    ·exact hv.elim
   ·exact hv.elim
  rcases hm with ⟨A,hm⟩|⟨A,hm⟩|⟨A,hm⟩|A
  ·rw [A] at hrw;(cases h with|own l=>{cases hrw}|free=>{exact body (by rw [A];exact λh=>by cases h) (λ_ _ _ _ _ _ _ _ _=>.inl hm) hv})
  ·rw [A] at hrw;(cases h with|free=>{cases hrw}|own l=>{simp only [uR,Qw1,Qm4] at hrw;exact own l rfl hrw.1.symm hrw.2.symm (.inl A) (λ_=>.inl hm)})
  ·rw [A] at hrw;(cases h with|free=>{cases hrw}|own l=>{simp only [uR,Qw1,Qm4] at hrw;exact own l rfl hrw.1.symm hrw.2.symm (.inr (.inl A)) (λ_=>.inr hm)})
  ·rw [A] at hrw;(cases h with|free=>{cases hrw}|own l=>{simp only [uR,Qw1,Qm4] at hrw;exact own l rfl hrw.1.symm hrw.2.symm (.inr (.inr A)) (λh=>absurd A h)})
end Go.Eng
namespace Go.Eng
variable {P:Program} {T:eu} {LF RF:List Nat}
def CJ (ops:Array Oper)(o:Oper)(st:St)(k:St->Bool->Prop):Prop:=
 match o.guard with
 | none=>k st true
 | some (j,b)=>match (ops[j]?).bind (·.dst) with
  | none=>False
  | some g=>match st.ax g with
   | some (.c .tt)=>k st b
   | some (.c .ff)=>k st (!b)
   | some (.c (.v (.bool c)))=>(c=true->k (st.put (some g) (.c .tt)) b)/\(c=false->k (st.put (some g) (.c .ff)) (!b))
   | some (.vL _)=>k st false
   | _=>False
def oM (P:Program)(T:eu)(m:CM)(h:Hint)(o:Oper)(V:View)(K:St->View->Prop)(st:St)(w:Bool):Prop:=
 match w with
 | true=>dR P T m h o st V K
 | false=>K (st.put o.dst lJ) V
def GD {m:CM}{h:Hint}{ops:Array Oper}{o:Oper}{st:St}{V:ut}{K:St->ut->Prop} :
  vo P T m h ops o st V K↔CJ ops o st (oM P T m h o V K):=by unfold vo CJ;(cases hg:o.guard with|none=>rfl|some jb=>{obtain ⟨j,b⟩:=jb;dsimp only;(cases hd:(ops[j]?).bind (·.dst) with|none=>rfl|some g=>{dsimp only;split<;>simp_all<;>cases b<;>rfl})})
def rL:Nat->Option aW:=λ_=>none
structure GOut (ops:Array Oper) (o:Oper) (st:St) (k:St->Bool->Prop) (p:Nat->Option SV) (w:Bool):Prop where
 pd:∀t,t∉gE ops o->p t=none
 next:k (ov p rL st) w
 again:∀(st2:St)(k2:St->Bool->Prop),(∀t∈gE ops o,st2.ax t=st.ax t)->k2 (ov p rL st2) w->CJ ops o st2 k2
def im {ops:Array Oper}{o:Oper}{st:St}{k:St->md->Prop}(h:CJ ops o st k):∃p w,GOut ops o st k p w:=by unfold CJ at h;split at h;{rename_i l;exact ⟨λ_=>none,true,λ_ _=>rfl,h,λd q _ f=>by unfold CJ;rw [l];exact f⟩};{rename_i j b l;split at h;{exact h.elim};{rename_i g n;have a:gE ops o=[g]:=by{simp only [gE,l,n]};split at h;{rename_i m;exact ⟨λ_=>none,b,λ_ _=>rfl,h,λd q i f=>by unfold CJ;simp only [l,n,i g (by simp [a]),m];exact f⟩};{rename_i m;exact ⟨λ_=>none,!b,λ_ _=>rfl,h,λd q i f=>by unfold CJ;simp only [l,n,i g (by simp [a]),m];exact f⟩};{rename_i c m;(cases c with|true=>{refine ⟨one (some g) (.c .tt),b,λt r=>fg (by intro e;apply r;rw [a];simpa using e.symm),?_,λd q i f=>?_⟩;{have:=h.1 rfl;rw [gG] at this;exact this};{unfold CJ;simp only [l,n,i g (by simp [a]),m];exact ⟨λ_=>by rw [gG];exact f,λe=>by cases e⟩}}|false=>{refine ⟨one (some g) (.c .ff),!b,λt r=>fg (by intro e;apply r;rw [a];simpa using e.symm),?_,λd q i f=>?_⟩;{have:=h.2 rfl;rw [gG] at this;exact this};{unfold CJ;simp only [l,n,i g (by simp [a]),m];exact ⟨λe=>(by cases e),λ_=>by rw [gG];exact f⟩}})};{rename_i xs m;exact ⟨λ_=>none,false,λ_ _=>rfl,h,λd q i f=>by unfold CJ;simp only [l,n,i g (by simp [a]),m];exact f⟩};{exact h.elim}}}
def qo {ops:Array Oper}{o:Oper}{st:St}{k k':St->md->Prop}(hk:∀s w,k s w->k' s w)(h:CJ ops o st k):CJ ops o st k':=by have ⟨p,w,a⟩:=im h;grind [a.again,a.next]
def put_comm {st:St}{d d':Option Nat}{x y:SV}(h:∀k,d=some k->d'≠some k):(st.put d x).put d' y=(st.put d' y).put d x:=by (cases d with|none=>rfl|some d=>{(cases d' with|none=>rfl|some d'=>{have a:d≠d':=λe=>h d rfl (by rw [e]);simp only [St.put];grind [ig]})})
def KD {ops:Array Oper}{o1 o2:Oper}{st:St}{F:St->md->md->Prop}(h:CJ ops o1 st λs w1=>CJ ops o2 s λs' w2=>F s' w1 w2) :
  CJ ops o2 st λs w2=>CJ ops o1 s λs' w1=>F s' w1 w2:=by by_cases f:∃g,gE ops o1=[g]/\gE ops o2=[g];{obtain ⟨g,a,b⟩:=f;unfold gE at a b;split at a;{cases a};{rename_i u v i;split at a;{rename_i w j;cases a;split at b;{cases b};{rename_i x y k;split at b;{rename_i z l;cases b;unfold CJ at h ⊢;simp only [i,k,j,l] at h ⊢;split at h;{rename_i n;exact h};{rename_i n;exact h};{grind [eO]};{rename_i xs n;exact h};{exact h.elim}};{cases b}}};{cases a}}};{have ⟨q,w1,d⟩:=im h;have ⟨r,w2,e⟩:=im d.next;have p:∀o:Oper,gE ops o=[]\/∃g,gE ops o=[g]:=by{intro o;unfold gE;grind};have c:∀t,t∈gE ops o1->t∉gE ops o2:=by{grind};refine e.again st _ (λt m=>?_) (d.again _ _ (λt m=>?_) ?_);{show st.ax t=(ov q rL st).ax t;simp [ov,d.pd t (λh=>c t h m)]};{show (ov r rL st).ax t=st.ax t;simp [ov,e.pd t (c t m)]};grind [rL,F8,e.pd,d.pd,e.next]}
theorem ka {o:Oper}{k:Nat}(h:o.dst=some k):k∈fN o:=by simp [fN,h]
def UM {ops:Array Oper}{m1 m2:CM}{h1 h2:Hint}{o1 o2:Oper}{st:St}{V:ut}{K:St->ut->Prop}
  (hi:indep LF RF ops h1 h2 o1 o2=true)
  (hm:pZ (bG LF RF o2.op)=true\/(bG LF RF o2.op=.call/\m2=.none)\/((bG LF RF o2.op=.nj/\m2=.ar)\/(bG LF RF o2.op=.give/\m2=.give)\/bG LF RF o2.op=.app))
  (hv:vo P T m1 h1 ops o1 st V λst1 V1=>vo P T m2 h2 ops o2 st1 V1 K) :
  vo P T m2 h2 ops o2 st V λst2 V2=>vo P T m1 h1 ops o1 st2 V2 K:=by unfold indep at hi;simp only [Qx1] at hi;obtain ⟨⟨⟨⟨⟨v,f⟩,g⟩,w⟩,y⟩,l⟩:=hi;split at l;{rename_i U W X Y z o;simp only [Qx1] at l;obtain ⟨⟨L,n⟩,A⟩:=l;rw [H0] at f g w y L n A;have B:∀k,o2.dst=some k->o1.dst≠some k:=λk C F=>f k (ka F) (by simp [ka C]);simp only [GD] at hv ⊢;have O:CJ ops o1 st λs m=>CJ ops o2 s λD j=>oM P T m1 h1 o1 V (λr G=>oM P T m2 h2 o2 G K r j) D m:=by{refine qo (λs m c=>?_) hv;(cases m with|true=>{have ⟨p,q,i⟩:=qU v z c;have ⟨E,j,b⟩:=im i.next;refine b.again s _ (λt a=>?_) ?_;{show s.ax t=(ov p q s).ax t;simp [ov,i.pd t (λh=>f t h (by simp [a]))]};{refine i.again _ V _ (View.Le.refl V) (λt a=>?_) (λ_ _=>rfl) ?_;{show (ov E rL s).ax t=s.ax t;simp [ov,b.pd t (λh=>y t h a)]};grind [F8,rL,b.next,i.pd,b.pd]}}|false=>{simp only [oM] at c;have ⟨E,j,b⟩:=im c;have Q:∀k,o1.dst=some k->E k=none:=λk C=>b.pd k (λh=>f k (ka C) (by simp [h]));refine b.again s _ (λt a=>?_) ?_;{rw [gG];simp [ov,fg (d:=o1.dst) (x:=lJ) (t:=t) (λh=>f t (ka h) (by simp [a]))]};{show oM P T m2 h2 o2 V K ((ov E rL s).put o1.dst lJ) j;rw [lB Q];exact b.next}})};have R:=KD O;have S:CJ ops o2 st λs j=>CJ ops o1 s λD m=>oM P T m2 h2 o2 V (λr G=>oM P T m1 h1 o1 G K r m) D j:=by{refine qo (λs j c=>qo (λD m c=>?_) c) R;(cases m with|true=>{have ⟨p,q,i⟩:=qU v z c;(cases j with|true=>{refine vR hm o (λt a=>i.pd t (λh=>f t h (by rcases a with a|a<;>simp [a]))) (λs u=>i.qd s (λh=>L s h u)) (λs u=>i.qd s (λh=>A s h u)) (λs2 V2 b=>?_) i.next;obtain ⟨M,H,N,I⟩:=b;exact i.again s2 V2 K M (λt a=>H t (λh=>g t h (by simp [a]))) (λs u=>N s (λh=>n s h u)) I}|false=>{refine i.again _ V K (View.Le.refl V) (λt a=>?_) (λs _=>by cases o2.dst<;>rfl) ?_;{rw [gG];simp [ov,fg (d:=o2.dst) (x:=lJ) (t:=t) (λh=>g t (ka h) (by simp [a]))]};grind [i.next,oM,lB,i.pd,ka]})}|false=>{(cases j with|true=>{simp only [oM] at c ⊢;rw [gG] at c;refine vR hm o (λt a=>fg (λe=>f t (ka e) (by rcases a with a|a<;>simp [a]))) (λs u=>rfl) (λs u=>rfl) (λs2 V2 b=>?_) c;have:=b.2.2.2;grind [gG]}|false=>{simp only [oM] at c ⊢;rw [put_comm B];exact c})})};refine qo (λs j c=>?_) S;(cases j with|true=>{simp only [oM] at c ⊢;have ⟨p,m,b⟩:=im c;refine vR hm o (λt a=>b.pd t (λh=>?_)) (λ_ _=>rfl) (λ_ _=>rfl) (λs2 V2 J=>?_) b.next;{rcases a with a|a;{exact w t h a};{exact g t a (by simp [h])}};{obtain ⟨M,H,N,I⟩:=J;exact b.again s2 _ (λt a=>H t (λh=>g t h (by simp [a]))) I}}|false=>{simp only [oM] at c ⊢;have ⟨p,m,b⟩:=im c;refine b.again _ _ (λt a=>?_) ?_;{rw [gG];simp [ov,fg (d:=o2.dst) (x:=lJ) (t:=t) (λh=>g t (ka h) (by simp [a]))]};{have:=b.next;rw [lB (λk C=>b.pd k (λh=>g k (ka C) (by simp [h])))] at this;exact this}})};{cases l}
end Go.Eng
