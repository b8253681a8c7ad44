import Derived.Test.YtdhlkpfmlimjfaaGreatDoorN5
import Derived.Laws.Sem
import Derived.Test.YtdhlkpfmlimjfaaGreatDoorProg
set_option linter.unusedVariables false
open Go.IntKind (i64 u64 u32)
namespace Go.Eng
variable {P:Program} {T:cI} {LF RF:List Nat} {n:Nat} {V0:View} {bh:DF} {β0:Nat->Nat} {β:Nat->Nat} {st:St} {a:Act} {w:World} {V:View}
def Lq (tmps:Array Value):ResultVar->Sem Value
 | .tmp t=>pure (tmps.getD t undef)
 | .cell c t=>do loadVar t (←asAddr (tmps.getD c undef))
theorem Ez (fn:Func)(tmps:Array Value):results fn tmps=(do let vs ←fn.results.mapM (Lq tmps);pure (if h:vs.size=1 then vs[0] else .tuple vs)):=by
 unfold results;congr 1
theorem me (hT:cI.ok P T)(hM:Mod n V0 bh β0 st β a w V):∀{l:List ResultVar} {xs:List SV},kY T st l=some xs ->
  (l.mapM (Lq a.tmps)).run P w=.ok (xs.map (SV.den β)) w/\∀x∈xs,Live st x
 | [],xs,h=>by cases h;exact ⟨rfl,fun x hx=>nomatch hx⟩
 | .tmp t::r,xs,h=>by
  simp only [kY] at h;split at h
  ·rename_i x l hx hl;cases h;obtain ⟨h1,h2⟩:=me hT hM hl;refine ⟨?_,fun y b=>?_⟩
   ·simp only [List.mapM_cons,Lq,Sem.run_bind,Sem.run_pure,Result.andThen_ok,h1,List.map_cons];rw [hM.ao t x hx]
   ·rcases List.mem_cons.1 b with rfl|b
    ·exact hM.wG t y hx
    ·exact h2 y b
  ·cases h
 | .cell c t::r,xs,h=>by
  simp only [kY] at h;split at h
  ·rename_i s o i l hx d hl;split at h
   ·rename_i p x e;cases h;obtain ⟨h1,h2⟩:=me hT hM hl;obtain ⟨f,g⟩:=yY hM (hT _ _ d) e;have j:(loadVar t ⟨β s,o,none⟩).run P w=.ok (x.den β) w:=f;refine ⟨?_,fun y b=>?_⟩
    ·have k:a.tmps.getD c undef=.pointer (some ⟨β s,o,none⟩):=hM.ao c _ hx;have m:asAddr (.pointer (some ⟨β s,o,none⟩))=pure ⟨β s,o,none⟩:=rfl;simp only [List.mapM_cons,Lq,k,m,Sem.run_bind,Result.andThen_ok,Sem.run_pure,j,h1,List.map_cons]
    ·rcases List.mem_cons.1 b with rfl|b
     ·exact g
     ·exact h2 y b
   ·cases h
  ·cases h
theorem CO (hT:cI.ok P T)(hM:Mod n V0 bh β0 st β a w V){fn:Func}{xs:List SV}(h:kY T st fn.results.toList=some xs) :
  (results fn a.tmps).run P w=.ok (kX β xs) w/\∀x∈xs,Live st x:=by
 obtain ⟨b,c⟩:=me hT hM h;refine ⟨?_,c⟩;rw [Ez,Array.mapM_eq_mapM_toList];simp only [map_eq_pure_bind,bind_assoc,pure_bind,Sem.run_bind];rw [b];simp only [Result.andThen_ok,Sem.run_pure]
 match xs with
 | []=>simp [kX]
 | [x]=>simp [kX]
 | x::y::r=>simp [kX]
def HN (β0:Nat->Nat)(s:Nat)(b:aF):List (Nat×aF)->Prop
 | []=>True
 | (t,b')::r=>oV (Hs b++Hs b') (β0 s≠β0 t)/\HN β0 s b r
def Kv (β0:Nat->Nat)(V:View):List (Nat×aF)->Prop
 | []=>True
 | (s,b)::r=>(oV (Hs b) (V.w.heap[β0 s]?=some (b.obj β0))/\oV (Hs b) (V.X (β0 s)))/\HN β0 s b r/\Kv β0 V r
theorem nA {s:Nat}{b:aF}:∀{r:List (Nat×aF)},HN β0 s b r->∀t b',au r t=some b'->b.live->b'.live->β0 s≠β0 t
 | [],_,_,_,h=>by cases h
 | (u,c)::r,h,t,b',ha=>by
  simp only [au] at ha;by_cases e:t=u
  ·subst e;rw [Nat.beq_refl] at ha;cases ha;have h1:=h.1;rw [rJ,e_] at h1;exact fun l a=>e_.1 (h1 l) a
  ·rw [cU e] at ha;exact nA h.2 t b' ha
theorem yo:∀{bs:List (Nat×aF)},Kv β0 V bs->(∀s b,au bs s=some b->b.live->V.w.heap[β0 s]?=some (b.obj β0)/\V.X (β0 s))/\∀s s' b b',au bs s=some b->b.live->au bs s'=some b'->b'.live->β0 s=β0 s'->s=s'
 | [],_=>⟨fun s b h=>(by cases h),fun s s' b b' h=>(by cases h)⟩
 | (s,b)::r,⟨h1,h2,h3⟩=>by
  obtain ⟨g1,g2⟩:=yo h3;refine ⟨fun t x h l=>?_,fun t f x i a l c g he=>?_⟩
  ·simp only [au] at h;by_cases e:t=s
   ·subst e;rw [Nat.beq_refl] at h;cases h;exact ⟨e_.1 h1.1 l,e_.1 h1.2 l⟩
   ·rw [cU e] at h;exact g1 t x h l
  ·simp only [au] at a c;by_cases e:t=s<;>by_cases d:f=s
   ·rw [e,d]
   ·subst e;rw [Nat.beq_refl] at a;cases a;rw [cU d] at c;exact absurd he (nA h2 f i c l g)
   ·subst d;rw [Nat.beq_refl] at c;cases c;rw [cU e] at a;exact absurd he.symm (nA h2 t x a g l)
   ·rw [cU e] at a;rw [cU d] at c;exact g2 t f x i a l c g he
theorem mg:∀{l:List (Nat×SV)} {i:Nat},mP i l=true->∀t x,au l t=some x->∃k,t=i+k/\l[k]?=some (t,x)
 | [],_,_,_,_,h=>by cases h
 | (j,y)::r,i,hs,t,x,h=>by
  simp only [mP,Bool.and_eq_true] at hs;obtain ⟨⟨h1,-⟩,h2⟩:=hs;have h1:=beq_eq.1 h1;simp only [au] at h;by_cases e:t=j
  ·subst e;rw [Nat.beq_refl] at h;cases h;exact ⟨0,by omega,rfl⟩
  ·rw [cU e] at h;obtain ⟨k,b,a⟩:=mg h2 t x h;exact ⟨k+1,by omega,by simpa using a⟩
theorem qh {bx:Nat->Option aF}{V':View}:∀{l:List Nat} {k:Prop},HM bx β V' l k->(∀s∈l,∀b,bx s=some b->b.live->V'.w.heap[β s]?=some (b.obj β))->(∀s∈l,∃b,bx s=some b/\b.live)/\k
 | [],_,h,_=>⟨fun s hs=>(nomatch hs),h⟩
 | s::r,k,h,hf=>by
  simp only [HM] at h;split at h
  ·exact h.elim
  ·rename_i b hne hb
   have lb:b.live:=by
    intro c e;obtain ⟨cs,ty⟩:=b;dsimp only at e;subst e;exact absurd rfl (hne c ty)
   obtain ⟨d,f⟩:=qh (h (hf s (by simp) b hb lb)) fun t a=>hf t (List.mem_cons_of_mem _ a);exact ⟨fun t a=>by rcases List.mem_cons.1 a with rfl|a;exact ⟨b,hb,lb⟩;exact d t a,f⟩
  ·exact h.elim
theorem yL:∀{bs:List (Nat×aF)} {m:Nat} {b:aF},(m,b)∈bs->(∃vs,b.cs=.aJ vs)\/m∈jf bs
 | [],_,_,h=>nomatch h
 | (s,x)::r,m,b,h=>by
  rcases List.mem_cons.1 h with e|h
  ·cases e;unfold jf;split
   ·rename_i vs hcs;exact .inl ⟨vs,hcs⟩
   ·exact .inr (by simp)
  ·refine (yL h).imp id fun h=>?_;unfold jf;split
   ·exact h
   ·exact List.mem_cons_of_mem _ h
theorem uE:∀{bs:List (Nat×aF)} {m:Nat},m∈jf bs->m∈bs.map (·.1)
 | [],_,h=>nomatch h
 | (s,x)::r,m,h=>by
  unfold jf at h;split at h
  ·exact List.mem_cons_of_mem _ (uE h)
  ·rcases List.mem_cons.1 h with rfl|h
   ·simp
   ·exact List.mem_cons_of_mem _ (uE h)
theorem yV {b:Nat}{k:Prop}:∀{bs:List (Nat×aF)} {m:Nat} {vs:List Value} {ty:TypeId},(m,(⟨.aJ vs,ty⟩:aF))∈bs->vs≠[]->b=β0 m->IY bs β0 b k
 | [],_,_,_,h,_,_=>nomatch h
 | (s,x)::r,m,vs,ty,h,hv,he=>by
  rcases List.mem_cons.1 h with e|h
  ·cases e;exact .inl ⟨hv,he⟩
  ·have:=yV (k:=k) h hv he;unfold IY;split
   ·exact .inr this
   ·exact this
theorem j8 {l m:List Nat}{s:Nat}:s∈minus l m↔s∈l/\s∉m:=by
 unfold minus;rw [List.mem_filter,Bool.not_eq_true'];refine and_congr_right fun _=>⟨fun h hm=>?_,fun h=>?_⟩
 ·rw [cf.2 hm] at h;cases h
 ·cases hb:eH s m
  ·rfl
  ·exact absurd (cf.1 hb) h
theorem F4 {bx:Nat->Option aF}{s:Nat}(h:rS T bx s=false):s<100000:=by
 rcases Nat.lt_or_ge s 100000 with g|g
 ·exact g
 ·unfold rS at h;rw [show Nat.ble 100000 s=true from by rw [Nat.ble_eq];exact g] at h;cases h
theorem zg {bs:List (Nat×aF)}(hT:cI.ok P T)(hM:Mod n V0 ⟨jf bs,fun b=>∃m b0,au bs m=some b0/\b0.live/\b=β0 m⟩ β0 st β a w V){fn:Func}{R:Value->View->Prop}(hv:FN T fn.results.toList bs β0 V0.w.heap.size R st V) :
  ∃v,(results fn a.tmps).run P w=.ok v w/\R v (V0.to w hM.ext.size):=by
 unfold FN at hv;split at hv
 ·exact hv.elim
 ·rename_i xs M;obtain ⟨X,h2⟩:=CO hT hM M;dsimp only at hv;split at hv
  ·exact hv.elim
  ·rename_i E;generalize hL:reach st.boxes 3 (dedup (xs.flatMap SV.ids++jf bs))=L at hv E
   have p:∀s,s∈xs.flatMap SV.ids\/s∈jf bs->s∈L:=fun s c=>by
    rw [←hL];exact d_ 3 _ s (bC.2 (List.mem_append.2 c))
   have hle:V.Le (V0.to w hM.ext.size):=by
    intro b o d;obtain ⟨C,D⟩:=hM.nu b o d;exact ⟨D,C⟩
   have γf:∀γ:Nat->Nat,γ=(fun t=>if t∈minus L (jf bs) then β t else β0 t)->(∀s∈L,γ s=β s)/\kX γ xs=kX β xs:=by
    intro γ hγ
    have f:∀s∈L,γ s=β s:=by
     intro s c;rw [hγ];by_cases d:s∈jf bs
     ·have:s∉minus L (jf bs):=fun h=>(j8.1 h).2 d;simp only [this,if_false];exact (hM.ku s d).2.symm
     ·simp only [j8.2 ⟨c,d⟩,if_true]
    refine ⟨f,?_⟩;have j:∀x∈xs,x.den γ=x.den β:=fun x j=>SV.br fun s c=>f s (p s (.inl (List.mem_flatMap.2 ⟨x,j,c⟩)))
    match xs,j with
    | [],_=>rfl
    | [x],j=>exact j x (by simp)
    | x::y::r,j=>simp only [kX];rw [List.map_congr_left j]
   have J:∀γ:Nat->Nat,(∀s∈L,γ s=β s)->∀s∈L,∀b,st.boxes s=some b->b.live->(V0.to w hM.ext.size).w.heap[γ s]?=some (b.obj γ):=by
    intro γ f s c b d l;rw [f s c,aF.cz fun t q=>f t (fq E c d t q)];exact hM.boxes s b d l
   have k:∀γ:Nat->Nat,(∀s∈L,γ s=β s)->∀s∈L,s<100000->∀b,st.boxes s=some b->b.live->(V0.to w hM.ext.size).aS (γ s) (b.obj γ):=by
    intro γ f s c F b d l;refine ⟨fun hH=>?_,J γ f s c b d l⟩;have hH:V0.H (γ s):=hH;rw [f s c] at hH;rcases hM.own s b d l with h|⟨h,-⟩
    ·have:=V0.hH _ hH;omega
    ·omega
   split at hv
   ·rename_i K
    have F:∀s∈minus L (jf bs),s<100000:=by
     intro s c
     cases q:rS T st.boxes s with
     | false=>exact F4 q
     | true=>
      have:s∈(minus L (jf bs)).filter (rS T st.boxes):=List.mem_filter.2 ⟨c,q⟩;rw [K] at this;cases this
    have g:=iu (hv _ hle) β;generalize hγ:(fun t=>if t∈minus L (jf bs) then β t else β0 t)=γ at g;obtain ⟨f,i⟩:=γf γ hγ.symm;obtain ⟨-,z⟩:=qh g (fun s c b d l=>J γ f s (p s (.inr c)) b d l);obtain ⟨-,A⟩:=iz z (fun s c b d l=>k γ f s (j8.1 c).1 (F s c) b d l);refine ⟨_,X,?_⟩;rw [←i];exact A
   ·rename_i s K;split at hv
    ·rename_i b d
     have c:s∈minus L (jf bs):=by
      have:s∈(minus L (jf bs)).filter (rS T st.boxes):=by rw [K];simp
      exact (List.mem_filter.1 this).1
     obtain ⟨B,Y⟩:=j8.1 c;have g:=iu (hv (V0.to w hM.ext.size)) β;generalize hγ:(fun t=>if t∈minus L (jf bs) then β t else β0 t)=γ at g;obtain ⟨f,i⟩:=γf γ hγ.symm
     have G:V.Le ((V0.to w hM.ext.size).hideG (R7 b) (γ s)):=by
      intro x o j;obtain ⟨C,D⟩:=hle x o j;refine ⟨fun N=>?_,D⟩;rcases N with N|⟨Z,e,-⟩
      ·exact C N
      ·rw [f s B] at e;exact hM.sw s b d (KM.1 Z) o (e▸j)
     obtain ⟨hF,z⟩:=qh (g G) (fun s c b d l=>J γ f s (p s (.inr c)) b d l)
     have A:=z (e_.2 fun l=>J γ f s B b d l) (e_.2 fun l=>by
      rw [f s B];rcases hM.own s b d l with h|⟨-,m,b0,hm,l0,he⟩
      ·exact .inl h
      ·right;rcases yL (bU hm) with ⟨vs,I⟩|O
       ·obtain ⟨cs,ty⟩:=b0;dsimp only at I;subst I;exact yV (bU hm) (l0 vs rfl) he
       ·exfalso;obtain ⟨b1,Q,l1⟩:=hF m O;have e:=(hM.ku m O).2;rw [←e] at he;have:=hM.inj s m b b1 d l Q l1 he;exact Y (this▸O))
     obtain ⟨-,S⟩:=iz A (fun u hu b' U l'=>by
      obtain ⟨C,D⟩:=List.mem_filter.1 hu;have Pt:u≠s:=fun e=>by subst e;rw [Nat.beq_refl] at D;cases D
      have W:u<100000:=by
       cases q:rS T st.boxes u with
       | false=>exact F4 q
       | true=>
        have:u∈(minus L (jf bs)).filter (rS T st.boxes):=List.mem_filter.2 ⟨C,q⟩;rw [K] at this;exact absurd (List.mem_singleton.1 this) Pt
      exact k γ f u (j8.1 C).1 W b' U l')
     refine ⟨_,X,?_⟩;rw [←i];exact S
    ·exact hv.elim
   ·exact hv.elim
theorem Ij (hT : cI.ok P T)(hmx : P.follows .mixedOrders = true){L J : Bg}{f : FuncId}{fn : Func}(hf : P.funcs[f]? = some fn)(hn : (fn.name == "runtime.NumGoroutine") = false)
  {ss:List (Nat×SV)}{bs:List (Nat×aF)}{args:Array Value}{R:Value->View->Prop}(ha:args=(ss.map fun x=>x.2.den β0).toArray)(hb:Kv β0 V bs)
  (hv:AL P T LF RF L J fn ss bs β0 V R):Acts P f args V R:=by
 unfold AL at hv;split at hv
 ·rename_i code c;split at hv
  ·rename_i A;simp only [Bool.and_eq_true,List.all_eq_true,Nat.ble_eq] at A;obtain ⟨⟨⟨⟨⟨d,C⟩,hlen⟩,g⟩,D⟩,E⟩:=A
   have B:∀x∈bs,100000<=x.1/\x.1<200000:=fun x j=>by
    obtain ⟨F,G⟩:=D x j;exact ⟨F,Nat.le_of_ble_eq_true G⟩
   refine ⟨⟨fn,hf,by rw [c];rfl,hn⟩,calls_of_wp hf c ?_⟩;obtain ⟨u,H⟩:=yo hb;obtain ⟨t1,t2⟩:=vJ E;have I:args.size=ss.length:=by rw [ha];simp
   have K:Mod fn.ntmps V ⟨jf bs,fun b=>∃m p,au bs m=some p/\p.live/\b=β0 m⟩ β0 ⟨au ss,au bs⟩ β0 { tmps:=args++Array.replicate (fn.ntmps-args.size) undef,defers:=[] } V.w V:=by
    refine ⟨rfl,by simp;omega,?_,t1,t2,fun s b h l=>(u s b h l).1,fun s M b N h l n O=>H s M b N h l n O,fun b o h=>⟨h.2,h.1⟩,fun s b h l o Q=>Q.1 (V.hX _ (u s b h l).2),eK.refl _ _,?_,?_,?_,g⟩
    ·intro t x j;obtain ⟨k,q,i⟩:=mg C t x j
     have r:k<ss.length:=by
      rcases Nat.lt_or_ge k ss.length with n|n
      ·exact n
      ·rw [List.getElem?_eq_none n] at i;cases i
     have y:t=k:=by omega
     subst y;have:args[t]?=some (x.den β0):=by rw [ha];simp [i]
     have z:t<args.size:=by omega
     show (args++Array.replicate (fn.ntmps-args.size) undef).getD t undef=_;rw [Array.getD_eq_getD_getElem?,Array.getElem?_append_left z,this];rfl
    ·intro s b h l;exact .inr ⟨(B _ (bU h)).1,s,b,h,l,rfl⟩
    ·intro s S;obtain ⟨x,j,rfl⟩:=List.mem_map.1 (uE S);exact ⟨B x j,rfl⟩
    ·rintro b ⟨m,p,hm,l,rfl⟩;exact (u m p hm l).2
   refine DX hT hmx code _ β0 _ _ V _ _ K d hv ?_;intro e U β' W X Y a hle r
   cases e with
   | normal=>
    obtain ⟨v,q,i⟩:=zg hT a r;exact ⟨a.defers,v,q,v,rfl,a.ext,i⟩
   | ret=>
    obtain ⟨v,q,i⟩:=zg hT a r;exact ⟨a.defers,v,q,v,rfl,a.ext,i⟩
   | _=>exact r.elim
  ·exact hv.elim
 ·exact hv.elim
theorem fQ (hT : cI.ok P T)(hmx : P.follows .mixedOrders = true)(L J : Bg){f : FuncId}{fn : Func}(hf : P.funcs[f]? = some fn)(hn : (fn.name == "runtime.NumGoroutine") = false)
  (ss:List (Nat×SV))(bs:List (Nat×aF)){args:Array Value}{R:Value->View->Prop}(ha:args=(ss.map fun x=>x.2.den β0).toArray)(hb:Kv β0 V bs)
  {G:Prop}(h:G)(hG:G=AL P T LF RF L J fn ss bs β0 V R):Acts P f args V R:=by
 subst hG;exact Ij hT hmx hf hn ha hb h
theorem Mr (h:T.map (fun x=>j9 P x.1)=T.map fun x=>some x.2):cI.ok P T:=by
 intro t i a;have hm:=bU a;obtain ⟨k,b⟩:=List.getElem?_of_mem hm;have:=congrArg (fun l=>l[k]?) h;simp only [List.getElem?_map,b,Option.map_some,Option.some.injEq] at this;exact this
end Go.Eng
namespace Go.Proofs.Tryz
open Go.Eng
abbrev aP:List Nat:=[]
def Ue:cI:=[
 (3,⟨.int .i64,1,8,[.v (.int .i64 0)]⟩),
 (4,⟨.bool,1,1,[.ff]⟩),
 (0,⟨.tuple [],1,0,[.v (.tuple #[])]⟩),
 (58,⟨.struct [(56,0),(54,2)],3,56,[.ff,.v (.slice none 0 0),.v (.slice none 0 0)]⟩),
 (118,⟨.struct [(2,0),(2,1),(116,2)],3,24,[.v (.int .i64 0),.v (.int .i64 0),.v (.pointer none)]⟩),
 (224,⟨.int .u64,1,8,[.v (.int .u64 0)]⟩),
 (64,⟨.slice 225,1,24,[.v (.slice none 0 0)]⟩),
 (84,⟨.struct [(56,0),(56,2),(56,4)],6,96,[.ff,.v (.slice none 0 0),.ff,.v (.slice none 0 0),.ff,.v (.slice none 0 0)]⟩),
 (225,⟨.int .u32,1,4,[.v (.int .u32 0)]⟩),
 (60,⟨.struct [(58,0),(58,3)],6,112,[.ff,.v (.slice none 0 0),.v (.slice none 0 0),.ff,.v (.slice none 0 0),.v (.slice none 0 0)]⟩),
 (54,⟨.slice 225,1,24,[.v (.slice none 0 0)]⟩),
 (56,⟨.struct [(4,0),(54,1)],2,32,[.ff,.v (.slice none 0 0)]⟩),
 (2,⟨.int .i64,1,8,[.v (.int .i64 0)]⟩),
 (66,⟨.struct [(4,0),(64,1)],2,32,[.ff,.v (.slice none 0 0)]⟩),
 (120,⟨.struct [(118,0),(118,3),(118,6)],9,72,[.v (.int .i64 0),.v (.int .i64 0),.v (.pointer none),.v (.int .i64 0),.v (.int .i64 0),.v (.pointer none),.v (.int .i64 0),.v (.int .i64 0),.v (.pointer none)]⟩),
 (191,⟨.struct [(118,0),(118,3),(4,6),(4,7)],8,56,[.v (.int .i64 0),.v (.int .i64 0),.v (.pointer none),.v (.int .i64 0),.v (.int .i64 0),.v (.pointer none),.ff,.ff]⟩),
 (137,⟨.struct [(118,0),(118,3)],6,48,[.v (.int .i64 0),.v (.int .i64 0),.v (.pointer none),.v (.int .i64 0),.v (.int .i64 0),.v (.pointer none)]⟩),
 (43,⟨.slice 84,1,24,[.v (.slice none 0 0)]⟩),
 (173,⟨.slice 58,1,24,[.v (.slice none 0 0)]⟩),
 (112,⟨.slice 193,1,24,[.v (.slice none 0 0)]⟩),
 (34,⟨.struct [(3,0),(32,1)],2,32,[.v (.int .i64 0),.v (.slice none 0 0)]⟩),
 (29,⟨.iface,1,16,[.v (.nilIface)]⟩),
 (164,⟨.struct [(58,0),(58,3),(4,6),(4,7)],8,120,[.ff,.v (.slice none 0 0),.v (.slice none 0 0),.ff,.v (.slice none 0 0),.v (.slice none 0 0),.ff,.ff]⟩),
 (193,⟨.struct [(120,0),(191,9)],17,128,[.v (.int .i64 0),.v (.int .i64 0),.v (.pointer none),.v (.int .i64 0),.v (.int .i64 0),.v (.pointer none),.v (.int .i64 0),.v (.int .i64 0),.v (.pointer none),.v (.int .i64 0),.v (.int .i64 0),.v (.pointer none),.v (.int .i64 0),.v (.int .i64 0),.v (.pointer none),.ff,.ff]⟩),
 (76,⟨.struct [(66,0),(66,2),(66,4)],6,96,[.ff,.v (.slice none 0 0),.ff,.v (.slice none 0 0),.ff,.v (.slice none 0 0)]⟩),
 (22,⟨.slice 3,1,24,[.v (.slice none 0 0)]⟩),
 (32,⟨.slice 78,1,24,[.v (.slice none 0 0)]⟩),
 (116,⟨.ptr 289,1,8,[.v (.pointer none)]⟩),
 (53,⟨.slice 225,1,24,[.v (.slice none 0 0)]⟩),
 (23,⟨.ptr 107,1,8,[.v (.pointer none)]⟩),
 (161,⟨.slice 164,1,24,[.v (.slice none 0 0)]⟩),
 (113,⟨.ptr 122,1,8,[.v (.pointer none)]⟩),
 (95,⟨.slice 4,1,24,[.v (.slice none 0 0)]⟩),
 (27,⟨.slice 49,1,24,[.v (.slice none 0 0)]⟩),
 (49,⟨.struct [(47,0)],1,24,[.v (.slice none 0 0)]⟩),
 (47,⟨.slice 76,1,24,[.v (.slice none 0 0)]⟩),
 (70,⟨.struct [(68,0),(68,3)],6,112,[.ff,.v (.slice none 0 0),.v (.slice none 0 0),.ff,.v (.slice none 0 0),.v (.slice none 0 0)]⟩),
 (115,⟨.struct [(112,0),(113,1)],2,32,[.v (.slice none 0 0),.v (.pointer none)]⟩),
 (108,⟨.slice 115,1,24,[.v (.slice none 0 0)]⟩),
 (107,⟨.struct [(4,0),(4,1),(84,2),(23,8),(23,9)],10,120,[.ff,.ff,.ff,.v (.slice none 0 0),.ff,.v (.slice none 0 0),.ff,.v (.slice none 0 0),.v (.pointer none),.v (.pointer none)]⟩),
 (226,⟨.int .u64,1,8,[.v (.int .u64 0)]⟩),
 (24,⟨.ptr 102,1,8,[.v (.pointer none)]⟩),
 (45,⟨.struct [(43,0),(4,1)],2,32,[.v (.slice none 0 0),.ff]⟩),
 (78,⟨.struct [(76,0),(3,6),(3,7)],8,112,[.ff,.v (.slice none 0 0),.ff,.v (.slice none 0 0),.ff,.v (.slice none 0 0),.v (.int .i64 0),.v (.int .i64 0)]⟩),
 (111,⟨.slice 193,1,24,[.v (.slice none 0 0)]⟩),
 (122,⟨.struct [(120,0),(113,9),(113,10),(4,11)],12,96,[.v (.int .i64 0),.v (.int .i64 0),.v (.pointer none),.v (.int .i64 0),.v (.int .i64 0),.v (.pointer none),.v (.int .i64 0),.v (.int .i64 0),.v (.pointer none),.v (.pointer none),.v (.pointer none),.ff]⟩),
 (94,⟨.arr 2 3,2,16,[.v (.int .i64 0),.v (.int .i64 0)]⟩),
 (38,⟨.slice 45,1,24,[.v (.slice none 0 0)]⟩),
 (167,⟨.slice 171,1,24,[.v (.slice none 0 0)]⟩),
 (289,⟨.struct [(66,0),(64,2)],3,56,[.ff,.v (.slice none 0 0),.v (.slice none 0 0)]⟩),
 (252,⟨.struct [(32,0),(95,1),(3,2),(4,3)],4,64,[.v (.slice none 0 0),.v (.slice none 0 0),.v (.int .i64 0),.ff]⟩),
 (90,⟨.slice 94,1,24,[.v (.slice none 0 0)]⟩),
 (171,⟨.struct [(84,0),(164,6)],14,216,[.ff,.v (.slice none 0 0),.ff,.v (.slice none 0 0),.ff,.v (.slice none 0 0),.ff,.v (.slice none 0 0),.v (.slice none 0 0),.ff,.v (.slice none 0 0),.v (.slice none 0 0),.ff,.ff]⟩),
 (68,⟨.struct [(66,0),(64,2)],3,56,[.ff,.v (.slice none 0 0),.v (.slice none 0 0)]⟩),
 (102,⟨.struct [(22,0),(3,1)],2,32,[.v (.slice none 0 0),.v (.int .i64 0)]⟩),
 (179,⟨.slice 120,1,24,[.v (.slice none 0 0)]⟩),
 (41,⟨.slice 43,1,24,[.v (.slice none 0 0)]⟩),
 (96,⟨.slice 60,1,24,[.v (.slice none 0 0)]⟩),
 (250,⟨.ptr 252,1,8,[.v (.pointer none)]⟩),
 (263,⟨.tuple [224,4],1,0,[.v (.tuple #[.int .u64 0,.bool false])]⟩),
 (235,⟨.arr 2 167,2,48,[.v (.slice none 0 0),.v (.slice none 0 0)]⟩),
 (267,⟨.tuple [191,4],1,0,[.v (.tuple #[.agg #[.int .i64 0,.int .i64 0,.pointer none,.int .i64 0,.int .i64 0,.pointer none,.bool false,.bool false],.bool false])]⟩),
 (5,⟨.int .u8,1,1,[.v (.int .u8 0)]⟩),
 (229,⟨.tuple [54,54],1,0,[.v (.tuple #[.slice none 0 0,.slice none 0 0])]⟩),
 (297,⟨.tuple [2,4],1,0,[.v (.tuple #[.int .i64 0,.bool false])]⟩),
 (30,⟨.tuple [27,22,29],1,0,[.v (.tuple #[.slice none 0 0,.slice none 0 0,.nilIface])]⟩),
 (109,⟨.tuple [108,29],1,0,[.v (.tuple #[.slice none 0 0,.nilIface])]⟩),
 (132,⟨.tuple [60,4],1,0,[.v (.tuple #[.agg #[.bool false,.slice none 0 0,.slice none 0 0,.bool false,.slice none 0 0,.slice none 0 0],.bool false])]⟩),
 (208,⟨.slice 64,1,24,[.v (.slice none 0 0)]⟩),
 (85,⟨.tuple [84,4],1,0,[.v (.tuple #[.agg #[.bool false,.slice none 0 0,.bool false,.slice none 0 0,.bool false,.slice none 0 0],.bool false])]⟩),
 (80,⟨.tuple [23,4],1,0,[.v (.tuple #[.pointer none,.bool false])]⟩),
 (182,⟨.tuple [112,4],1,0,[.v (.tuple #[.slice none 0 0,.bool false])]⟩),
 (9,⟨.str,1,16,[.v (.string ByteArray.empty)]⟩),
 (360,⟨.struct [(9,0)],1,16,[.v (.string ByteArray.empty)]⟩),
 (124,⟨.tuple [32,3],1,0,[.v (.tuple #[.slice none 0 0,.int .i64 0])]⟩),
 (265,⟨.tuple [225,225],1,0,[.v (.tuple #[.int .u32 0,.int .u32 0])]⟩),
 (295,⟨.tuple [64,64,4],1,0,[.v (.tuple #[.slice none 0 0,.slice none 0 0,.bool false])]⟩),
 (62,⟨.tuple [3,4,29],1,0,[.v (.tuple #[.int .i64 0,.bool false,.nilIface])]⟩),
 (219,⟨.slice 29,1,24,[.v (.slice none 0 0)]⟩),
 (36,⟨.tuple [27,29],1,0,[.v (.tuple #[.slice none 0 0,.nilIface])]⟩),
 (91,⟨.tuple [90,29],1,0,[.v (.tuple #[.slice none 0 0,.nilIface])]⟩),
 (186,⟨.tuple [113,4],1,0,[.v (.tuple #[.pointer none,.bool false])]⟩),
 (195,⟨.tuple [164,4],1,0,[.v (.tuple #[.agg #[.bool false,.slice none 0 0,.slice none 0 0,.bool false,.slice none 0 0,.slice none 0 0,.bool false,.bool false],.bool false])]⟩),
 (213,⟨.iface,1,16,[.v (.nilIface)]⟩),
 (244,⟨.tuple [120,4],1,0,[.v (.tuple #[.agg #[.int .i64 0,.int .i64 0,.pointer none,.int .i64 0,.int .i64 0,.pointer none,.int .i64 0,.int .i64 0,.pointer none],.bool false])]⟩),
 (331,⟨.tuple [64,4],1,0,[.v (.tuple #[.slice none 0 0,.bool false])]⟩),
 (141,⟨.func,1,8,[.v (.nilFunc)]⟩),
 (216,⟨.iface,1,16,[.v (.nilIface)]⟩),
 (218,⟨.iface,1,16,[.v (.nilIface)]⟩),
 (281,⟨.func,1,8,[.v (.nilFunc)]⟩),
 (72,⟨.tuple [22,29],1,0,[.v (.tuple #[.slice none 0 0,.nilIface])]⟩),
 (99,⟨.tuple [3,29],1,0,[.v (.tuple #[.int .i64 0,.nilIface])]⟩),
 (126,⟨.tuple [43,4],1,0,[.v (.tuple #[.slice none 0 0,.bool false])]⟩),
 (168,⟨.tuple [167,167],1,0,[.v (.tuple #[.slice none 0 0,.slice none 0 0])]⟩),
 (180,⟨.tuple [179,4],1,0,[.v (.tuple #[.slice none 0 0,.bool false])]⟩),
 (214,⟨.tuple [213,4],1,0,[.v (.tuple #[.nilIface,.bool false])]⟩),
 (232,⟨.tuple [193,4],1,0,[.v (.tuple #[.agg #[.int .i64 0,.int .i64 0,.pointer none,.int .i64 0,.int .i64 0,.pointer none,.int .i64 0,.int .i64 0,.pointer none,.int .i64 0,.int .i64 0,.pointer none,.int .i64 0,.int .i64 0,.pointer none,.bool false,.bool false],.bool false])]⟩),
 (236,⟨.tuple [161,4],1,0,[.v (.tuple #[.slice none 0 0,.bool false])]⟩),
 (247,⟨.tuple [4,4],1,0,[.v (.tuple #[.bool false,.bool false])]⟩),
 (277,⟨.tuple [3,4],1,0,[.v (.tuple #[.int .i64 0,.bool false])]⟩),
 (285,⟨.tuple [112,112,4,4],1,0,[.v (.tuple #[.slice none 0 0,.slice none 0 0,.bool false,.bool false])]⟩),
 (319,⟨.tuple [64,225],1,0,[.v (.tuple #[.slice none 0 0,.int .u32 0])]⟩),
 (321,⟨.tuple [64,64],1,0,[.v (.tuple #[.slice none 0 0,.slice none 0 0])]⟩),
 (328,⟨.tuple [224,224],1,0,[.v (.tuple #[.int .u64 0,.int .u64 0])]⟩),
 (20,⟨.iface,1,16,[.v (.nilIface)]⟩),
 (148,⟨.iface,1,16,[.v (.nilIface)]⟩),
 (335,⟨.ptr 360,1,8,[.v (.pointer none)]⟩)]
def Uf:cI:=Ue++[
 (45,⟨.struct [(43,0),(4,1)],2,32,[.v (.slice none 0 0),.ff]⟩),
 (84,⟨.struct [(56,0),(56,2),(56,4)],6,96,[.ff,.v (.slice none 0 0),.ff,.v (.slice none 0 0),.ff,.v (.slice none 0 0)]⟩),
 (45,⟨.struct [(43,0),(4,1)],2,32,[.v (.slice none 0 0),.ff]⟩)]
theorem Lz:cI.ok prog Uf:=Mr (by kernel_rfl)
theorem iY:cI.ok prog Ue:=Mr (by kernel_rfl)
theorem mixed:prog.follows .mixedOrders=true:=by kernel_rfl
abbrev VP:=View->Prop
abbrev VR:=Value->VP
abbrev Rt (V:View)(R:VR)(x:Value):Prop:=∀v:View,V.Le v->R x v
abbrev s3 {α0 α1 α2:Type}(a:α0)(b:α1)(c:α2)(K:Prop):Prop:=sm a/\sm b/\sm c/\K
abbrev s4 {α0 α1 α2 α3:Type}(a:α0)(b:α1)(c:α2)(d:α3)(K:Prop):Prop:=sm a/\sm b/\sm c/\sm d/\K
abbrev s5 {α0 α1 α2 α3 α4:Type}(a:α0)(b:α1)(c:α2)(d:α3)(e:α4)(K:Prop):Prop:=sm a/\sm b/\sm c/\sm d/\sm e/\K
abbrev s6 {α0 α1 α2 α3 α4 α5:Type}(a:α0)(b:α1)(c:α2)(d:α3)(e:α4)(f:α5)(K:Prop):Prop:=sm a/\sm b/\sm c/\sm d/\sm e/\sm f/\K
abbrev s7 {α0 α1 α2 α3 α4 α5 α6:Type}(a:α0)(b:α1)(c:α2)(d:α3)(e:α4)(f:α5)(g:α6)(K:Prop):Prop:=sm a/\sm b/\sm c/\sm d/\sm e/\sm f/\sm g/\K
abbrev s8 {α0 α1 α2 α3 α4 α5 α6 α7:Type}(a:α0)(b:α1)(c:α2)(d:α3)(e:α4)(f:α5)(g:α6)(h:α7)(K:Prop):Prop:=sm a/\sm b/\sm c/\sm d/\sm e/\sm f/\sm g/\sm h/\K
abbrev s9 {α0 α1 α2 α3 α4 α5 α6 α7 α8:Type}(a:α0)(b:α1)(c:α2)(d:α3)(e:α4)(f:α5)(g:α6)(h:α7)(i:α8)(K:Prop):Prop:=sm a/\sm b/\sm c/\sm d/\sm e/\sm f/\sm g/\sm h/\sm i/\K
abbrev sE {α0 α1 α2 α3 α4 α5 α6 α7 α8 α9:Type}(a:α0)(b:α1)(c:α2)(d:α3)(e:α4)(f:α5)(g:α6)(h:α7)(i:α8)(j:α9)(K:Prop):Prop:=sm a/\sm b/\sm c/\sm d/\sm e/\sm f/\sm g/\sm h/\sm i/\sm j/\K
abbrev sF {α0 α1 α2 α3 α4 α5 α6 α7 α8 α9 UH:Type}(a:α0)(b:α1)(c:α2)(d:α3)(e:α4)(f:α5)(g:α6)(h:α7)(i:α8)(j:α9)(k:UH)(K:Prop):Prop:=sm a/\sm b/\sm c/\sm d/\sm e/\sm f/\sm g/\sm h/\sm i/\sm j/\sm k/\K
abbrev bG {α0 α1 α2 α3 α4 α5 α6 α7 α8 α9 UH α11:Type}(a:α0)(b:α1)(c:α2)(d:α3)(e:α4)(f:α5)(g:α6)(h:α7)(i:α8)(j:α9)(k:UH)(l:α11)(K:Prop):Prop:=sm a/\sm b/\sm c/\sm d/\sm e/\sm f/\sm g/\sm h/\sm i/\sm j/\sm k/\sm l/\K
abbrev Ca (V:View)(f:Nat)(a:Array Value)(K:VR):Prop:=∀V1:View,V.Le V1->Acts prog f a V1 K
def sV:Value->SV
  | .agg l=>.agg (l.toList.map C.v)
  | v=>.c (.v v)
def sA:Nat->List Value->List (Nat×SV)
  | _,[]=>[]
  | n,v::l=>(n,sV v)::sA (n+1) l
theorem fd {LF RF:List Nat}(L K:Bg){f:FuncId}{fn:Func}(hf:prog.funcs[f]?=some fn){l:List Value}{V:View}{R:VR}{G:Prop}(h:G)
 (hn:(fn.name=="runtime.NumGoroutine")=false:=by kernel_rfl)(ha:l.toArray=((sA 0 l).map fun x=>x.2.den fun _=>0).toArray:=by kernel_rfl)
 (hG:G=AL prog Ue LF RF L K fn (sA 0 l) [] (fun _=>0) V R:=by kernel_rfl):Acts prog f l.toArray V R:=
  fQ (LF:=LF) (RF:=RF) (β0:=fun _=>0) iY mixed L K hf hn (sA 0 l) [] ha trivial h hG
open Go.Value renaming int→I,pointer→P,slice→S,agg→A,bool→B,tuple→T
open Go.IntKind renaming i64→J,u64→U,u32→W
abbrev Yo (a:OA)(n:Nat)(m:View)(v:Value):Prop:=∃q,addrAdd a n=some q/\m.at q v
abbrev Xh (V:View)(b:Nat)(l:List Value)(t:Nat):Prop:=V.w.heap[b]?=some (.cells l.toArray t (0,0))
abbrev Z0 (r:Value)(K:Int->Int->Prop):Prop:=∃(v0:Int)(v1:Int),r=T #[I W v0,I W v1]/\K v0 v1
abbrev Z1 (r:Value)(K:Int->Bool->Prop):Prop:=∃(v0:Int)(v1:Bool),r=T #[I U v0,B v1]/\K v0 v1
abbrev Z2 (r:Value)(K:OA->Nat->Nat->OA->Nat->Nat->Prop):Prop:=∃(v0:OA)(v1:Nat)(v2:Nat)(v3:OA)(v4:Nat)(v5:Nat),r=T #[S v0 v1 v2,S v3 v4 v5]/\K v0 v1 v2 v3 v4 v5
abbrev X3 (v0:OA)(v1:Nat)(v2:Nat)(v3:OA)(v4:Nat)(v5:Nat):Value:=T #[S v0 v1 v2,S v3 v4 v5]
abbrev Z4 (r:Value)(K:OA->Nat->Nat->Int->Prop):Prop:=∃(v0:OA)(v1:Nat)(v2:Nat)(v3:Int),r=T #[S v0 v1 v2,I W v3]/\K v0 v1 v2 v3
abbrev Z5 (r:Value)(K:OA->Nat->Nat->OA->Nat->Nat->Bool->Prop):Prop:=∃(v0:OA)(v1:Nat)(v2:Nat)(v3:OA)(v4:Nat)(v5:Nat)(v6:Bool),r=T #[S v0 v1 v2,S v3 v4 v5,B v6]/\K v0 v1 v2 v3 v4 v5 v6
abbrev Z6 (r:Value)(K:Bool->OA->Nat->Nat->Prop):Prop:=∃(v0:Bool)(v1:OA)(v2:Nat)(v3:Nat),r=A #[B v0,S v1 v2 v3]/\K v0 v1 v2 v3
abbrev X7 (v0:Bool)(v1:OA)(v2:Nat)(v3:Nat):Value:=A #[B v0,S v1 v2 v3]
abbrev X8 (v0:Bool)(v1:OA)(v2:Nat)(v3:Nat)(v4:OA)(v5:Nat)(v6:Nat):Value:=A #[B v0,S v1 v2 v3,S v4 v5 v6]
abbrev Z9 (r:Value)(K:Bool->OA->Nat->Nat->OA->Nat->Nat->Prop):Prop:=∃(v0:Bool)(v1:OA)(v2:Nat)(v3:Nat)(v4:OA)(v5:Nat)(v6:Nat),r=A #[B v0,S v1 v2 v3,S v4 v5 v6]/\K v0 v1 v2 v3 v4 v5 v6
abbrev MK (r:Value)(K:OA->Nat->Nat->Bool->Prop):Prop:=∃(v0:OA)(v1:Nat)(v2:Nat)(v3:Bool),r=T #[S v0 v1 v2,B v3]/\K v0 v1 v2 v3
abbrev cZ (r:Value)(K:Int->Int->OA->Prop):Prop:=∃(v0:Int)(v1:Int)(v2:OA),r=A #[I J v0,I J v1,P v2]/\K v0 v1 v2
abbrev aL (v0:Int)(v1:Int)(v2:OA):Value:=A #[I J v0,I J v1,P v2]
abbrev HB (r:Value)(K:Int->Bool->Prop):Prop:=∃(v0:Int)(v1:Bool),r=T #[I J v0,B v1]/\K v0 v1
abbrev Xr (r:Value)(K:Int->Int->Prop):Prop:=∃(v0:Int)(v1:Int),r=T #[I U v0,I U v1]/\K v0 v1
abbrev jy (v0:Bool)(v1:OA)(v2:Nat)(v3:Nat)(v4:OA)(v5:Nat)(v6:Nat)(v7:Bool)(v8:OA)(v9:Nat)(v10:Nat)(v11:OA)(v12:Nat)(v13:Nat):Value:=A #[B v0,S v1 v2 v3,S v4 v5 v6,B v7,S v8 v9 v10,S v11 v12 v13]
abbrev x_ (r:Value)(K:Bool->OA->Nat->Nat->OA->Nat->Nat->Bool->OA->Nat->Nat->OA->Nat->Nat->Prop):Prop:=∃(v0:Bool)(v1:OA)(v2:Nat)(v3:Nat)(v4:OA)(v5:Nat)(v6:Nat)(v7:Bool)(v8:OA)(v9:Nat)(v10:Nat)(v11:OA)(v12:Nat)(v13:Nat),r=A #[B v0,S v1 v2 v3,S v4 v5 v6,B v7,S v8 v9 v10,S v11 v12 v13]/\K v0 v1 v2 v3 v4 v5 v6 v7 v8 v9 v10 v11 v12 v13
abbrev gQ (v0:Bool)(v1:OA)(v2:Nat)(v3:Nat)(v4:Bool)(v5:OA)(v6:Nat)(v7:Nat)(v8:Bool)(v9:OA)(v10:Nat)(v11:Nat):Value:=A #[B v0,S v1 v2 v3,B v4,S v5 v6 v7,B v8,S v9 v10 v11]
abbrev jg (v0:Int)(v1:Int)(v2:OA)(v3:Int)(v4:Int)(v5:OA)(v6:Int)(v7:Int)(v8:OA):Value:=A #[I J v0,I J v1,P v2,I J v3,I J v4,P v5,I J v6,I J v7,P v8]
abbrev Od (r:Value)(K:Bool->OA->Nat->Nat->Bool->OA->Nat->Nat->Bool->OA->Nat->Nat->Prop):Prop:=∃(v0:Bool)(v1:OA)(v2:Nat)(v3:Nat)(v4:Bool)(v5:OA)(v6:Nat)(v7:Nat)(v8:Bool)(v9:OA)(v10:Nat)(v11:Nat),r=A #[B v0,S v1 v2 v3,B v4,S v5 v6 v7,B v8,S v9 v10 v11]/\K v0 v1 v2 v3 v4 v5 v6 v7 v8 v9 v10 v11
abbrev se (v0:Int)(v1:Int)(v2:OA)(v3:Int)(v4:Int)(v5:OA):Value:=A #[I J v0,I J v1,P v2,I J v3,I J v4,P v5]
abbrev F9 (r:Value)(K:Int->Int->OA->Int->Int->OA->Prop):Prop:=∃(v0:Int)(v1:Int)(v2:OA)(v3:Int)(v4:Int)(v5:OA),r=A #[I J v0,I J v1,P v2,I J v3,I J v4,P v5]/\K v0 v1 v2 v3 v4 v5
abbrev wJ (v0:Int)(v1:Int)(v2:OA)(v3:Int)(v4:Int)(v5:OA)(v6:Bool)(v7:Bool):Value:=A #[I J v0,I J v1,P v2,I J v3,I J v4,P v5,B v6,B v7]
abbrev QW (a:OA)(n:Nat)(m:View)(K:Bool->OA->Nat->Nat->OA->Nat->Nat->Bool->OA->Nat->Nat->OA->Nat->Nat->Bool->Bool->Addr->Prop):Prop:=∃(v0:Bool)(v1:OA)(v2:Nat)(v3:Nat)(v4:OA)(v5:Nat)(v6:Nat)(v7:Bool)(v8:OA)(v9:Nat)(v10:Nat)(v11:OA)(v12:Nat)(v13:Nat)(v14:Bool)(v15:Bool)(q:Addr),addrAdd a n=some q/\m.at (q.add 0) (B v0)/\m.at (q.add 1) (S v1 v2 v3)/\m.at (q.add 2) (S v4 v5 v6)/\m.at (q.add 3) (B v7)/\m.at (q.add 4) (S v8 v9 v10)/\m.at (q.add 5) (S v11 v12 v13)/\m.at (q.add 6) (B v14)/\m.at (q.add 7) (B v15)/\K v0 v1 v2 v3 v4 v5 v6 v7 v8 v9 v10 v11 v12 v13 v14 v15 q
abbrev Va (r:Value)(K:Int->Int->OA->Int->Int->OA->Int->Int->OA->Prop):Prop:=∃(v0:Int)(v1:Int)(v2:OA)(v3:Int)(v4:Int)(v5:OA)(v6:Int)(v7:Int)(v8:OA),r=A #[I J v0,I J v1,P v2,I J v3,I J v4,P v5,I J v6,I J v7,P v8]/\K v0 v1 v2 v3 v4 v5 v6 v7 v8
abbrev Vb (r:Value)(K:Int->Int->OA->Int->Int->OA->Bool->Bool->Prop):Prop:=∃(v0:Int)(v1:Int)(v2:OA)(v3:Int)(v4:Int)(v5:OA)(v6:Bool)(v7:Bool),r=A #[I J v0,I J v1,P v2,I J v3,I J v4,P v5,B v6,B v7]/\K v0 v1 v2 v3 v4 v5 v6 v7
abbrev MJ (v0:Int)(v1:Int)(v2:OA)(v3:Int)(v4:Int)(v5:OA)(v6:Int)(v7:Int)(v8:OA)(v9:Int)(v10:Int)(v11:OA)(v12:Int)(v13:Int)(v14:OA)(v15:Bool)(v16:Bool):Value:=A #[I J v0,I J v1,P v2,I J v3,I J v4,P v5,I J v6,I J v7,P v8,I J v9,I J v10,P v11,I J v12,I J v13,P v14,B v15,B v16]
abbrev Oa (a:OA)(n:Nat)(m:View)(K:Bool->OA->Nat->Nat->OA->Nat->Nat->Addr->Prop):Prop:=∃(v0:Bool)(v1:OA)(v2:Nat)(v3:Nat)(v4:OA)(v5:Nat)(v6:Nat)(q:Addr),addrAdd a n=some q/\m.at (q.add 0) (B v0)/\m.at (q.add 1) (S v1 v2 v3)/\m.at (q.add 2) (S v4 v5 v6)/\K v0 v1 v2 v3 v4 v5 v6 q
abbrev Ob (a:OA)(n:Nat)(m:View)(K:Int->Int->OA->Int->Int->OA->Int->Int->OA->Int->Int->OA->Int->Int->OA->Bool->Bool->Addr->Prop):Prop:=∃(v0:Int)(v1:Int)(v2:OA)(v3:Int)(v4:Int)(v5:OA)(v6:Int)(v7:Int)(v8:OA)(v9:Int)(v10:Int)(v11:OA)(v12:Int)(v13:Int)(v14:OA)(v15:Bool)(v16:Bool)(q:Addr),addrAdd a n=some q/\m.at (q.add 0) (I J v0)/\m.at (q.add 1) (I J v1)/\m.at (q.add 2) (P v2)/\m.at (q.add 3) (I J v3)/\m.at (q.add 4) (I J v4)/\m.at (q.add 5) (P v5)/\m.at (q.add 6) (I J v6)/\m.at (q.add 7) (I J v7)/\m.at (q.add 8) (P v8)/\m.at (q.add 9) (I J v9)/\m.at (q.add 10) (I J v10)/\m.at (q.add 11) (P v11)/\m.at (q.add 12) (I J v12)/\m.at (q.add 13) (I J v13)/\m.at (q.add 14) (P v14)/\m.at (q.add 15) (B v15)/\m.at (q.add 16) (B v16)/\K v0 v1 v2 v3 v4 v5 v6 v7 v8 v9 v10 v11 v12 v13 v14 v15 v16 q
abbrev QX (r:Value)(K:Bool->OA->Nat->Nat->OA->Nat->Nat->Bool->OA->Nat->Nat->OA->Nat->Nat->Bool->Bool->Prop):Prop:=∃(v0:Bool)(v1:OA)(v2:Nat)(v3:Nat)(v4:OA)(v5:Nat)(v6:Nat)(v7:Bool)(v8:OA)(v9:Nat)(v10:Nat)(v11:OA)(v12:Nat)(v13:Nat)(v14:Bool)(v15:Bool),r=A #[B v0,S v1 v2 v3,S v4 v5 v6,B v7,S v8 v9 v10,S v11 v12 v13,B v14,B v15]/\K v0 v1 v2 v3 v4 v5 v6 v7 v8 v9 v10 v11 v12 v13 v14 v15
abbrev Oc (a:OA)(n:Nat)(m:View)(K:Bool->OA->Nat->Nat->Bool->OA->Nat->Nat->Bool->OA->Nat->Nat->Addr->Prop):Prop:=∃(v0:Bool)(v1:OA)(v2:Nat)(v3:Nat)(v4:Bool)(v5:OA)(v6:Nat)(v7:Nat)(v8:Bool)(v9:OA)(v10:Nat)(v11:Nat)(q:Addr),addrAdd a n=some q/\m.at (q.add 0) (B v0)/\m.at (q.add 1) (S v1 v2 v3)/\m.at (q.add 2) (B v4)/\m.at (q.add 3) (S v5 v6 v7)/\m.at (q.add 4) (B v8)/\m.at (q.add 5) (S v9 v10 v11)/\K v0 v1 v2 v3 v4 v5 v6 v7 v8 v9 v10 v11 q
abbrev Xm (v0:Bool)(v1:OA)(v2:Nat)(v3:Nat)(v4:OA)(v5:Nat)(v6:Nat)(v7:Bool)(v8:OA)(v9:Nat)(v10:Nat)(v11:OA)(v12:Nat)(v13:Nat)(v14:Bool)(v15:Bool):Value:=A #[B v0,S v1 v2 v3,S v4 v5 v6,B v7,S v8 v9 v10,S v11 v12 v13,B v14,B v15]
abbrev Xp (a:OA)(n:Nat)(m:View)(K:Bool->OA->Nat->Nat->Bool->OA->Nat->Nat->Bool->OA->Nat->Nat->Bool->OA->Nat->Nat->OA->Nat->Nat->Bool->OA->Nat->Nat->OA->Nat->Nat->Bool->Bool->Addr->Prop):Prop:=∃(v0:Bool)(v1:OA)(v2:Nat)(v3:Nat)(v4:Bool)(v5:OA)(v6:Nat)(v7:Nat)(v8:Bool)(v9:OA)(v10:Nat)(v11:Nat)(v12:Bool)(v13:OA)(v14:Nat)(v15:Nat)(v16:OA)(v17:Nat)(v18:Nat)(v19:Bool)(v20:OA)(v21:Nat)(v22:Nat)(v23:OA)(v24:Nat)(v25:Nat)(v26:Bool)(v27:Bool)(q:Addr),addrAdd a n=some q/\m.at (q.add 0) (B v0)/\m.at (q.add 1) (S v1 v2 v3)/\m.at (q.add 2) (B v4)/\m.at (q.add 3) (S v5 v6 v7)/\m.at (q.add 4) (B v8)/\m.at (q.add 5) (S v9 v10 v11)/\m.at (q.add 6) (B v12)/\m.at (q.add 7) (S v13 v14 v15)/\m.at (q.add 8) (S v16 v17 v18)/\m.at (q.add 9) (B v19)/\m.at (q.add 10) (S v20 v21 v22)/\m.at (q.add 11) (S v23 v24 v25)/\m.at (q.add 12) (B v26)/\m.at (q.add 13) (B v27)/\K v0 v1 v2 v3 v4 v5 v6 v7 v8 v9 v10 v11 v12 v13 v14 v15 v16 v17 v18 v19 v20 v21 v22 v23 v24 v25 v26 v27 q
abbrev Xn (v0:Bool)(v1:OA)(v2:Nat)(v3:Nat)(v4:Bool)(v5:OA)(v6:Nat)(v7:Nat)(v8:Bool)(v9:OA)(v10:Nat)(v11:Nat)(v12:Bool)(v13:OA)(v14:Nat)(v15:Nat)(v16:OA)(v17:Nat)(v18:Nat)(v19:Bool)(v20:OA)(v21:Nat)(v22:Nat)(v23:OA)(v24:Nat)(v25:Nat)(v26:Bool)(v27:Bool):Value:=A #[B v0,S v1 v2 v3,B v4,S v5 v6 v7,B v8,S v9 v10 v11,B v12,S v13 v14 v15,S v16 v17 v18,B v19,S v20 v21 v22,S v23 v24 v25,B v26,B v27]
abbrev Xo (v0:OA)(v1:Nat)(v2:Nat)(v3:OA)(v4:Nat)(v5:Nat)(v6:Bool)(v7:Bool):Value:=T #[S v0 v1 v2,S v3 v4 v5,B v6,B v7]
abbrev Xs (r:Value)(K:OA->Nat->Nat->OA->Nat->Nat->Bool->Bool->Prop):Prop:=∃(v0:OA)(v1:Nat)(v2:Nat)(v3:OA)(v4:Nat)(v5:Nat)(v6:Bool)(v7:Bool),r=T #[S v0 v1 v2,S v3 v4 v5,B v6,B v7]/\K v0 v1 v2 v3 v4 v5 v6 v7
abbrev Xq (a:OA)(n:Nat)(m:View)(K:Int->Int->OA->Int->Int->OA->Int->Int->OA->Addr->Prop):Prop:=∃(v0:Int)(v1:Int)(v2:OA)(v3:Int)(v4:Int)(v5:OA)(v6:Int)(v7:Int)(v8:OA)(q:Addr),addrAdd a n=some q/\m.at (q.add 0) (I J v0)/\m.at (q.add 1) (I J v1)/\m.at (q.add 2) (P v2)/\m.at (q.add 3) (I J v3)/\m.at (q.add 4) (I J v4)/\m.at (q.add 5) (P v5)/\m.at (q.add 6) (I J v6)/\m.at (q.add 7) (I J v7)/\m.at (q.add 8) (P v8)/\K v0 v1 v2 v3 v4 v5 v6 v7 v8 q
abbrev Xt (r:Value)(K:OA->Bool->Prop):Prop:=∃(v0:OA)(v1:Bool),r=T #[P v0,B v1]/\K v0 v1
abbrev QV (v0:Int)(v1:OA)(v2:Nat)(v3:Nat):Value:=A #[I J v0,S v1 v2 v3]
abbrev Vc (r:Value)(K:OA->Nat->Nat->Prop):Prop:=∃(v0:OA)(v1:Nat)(v2:Nat),r=A #[S v0 v1 v2]/\K v0 v1 v2
abbrev U_ (a:OA)(n:Nat)(m:View)(K:OA->Nat->Nat->OA->Addr->Prop):Prop:=∃(v0:OA)(v1:Nat)(v2:Nat)(v3:OA)(q:Addr),addrAdd a n=some q/\m.at (q.add 0) (S v0 v1 v2)/\m.at (q.add 1) (P v3)/\K v0 v1 v2 v3 q
abbrev Xu (r:Value)(K:Int->OA->Nat->Nat->Prop):Prop:=∃(v0:Int)(v1:OA)(v2:Nat)(v3:Nat),r=A #[I J v0,S v1 v2 v3]/\K v0 v1 v2 v3
end Go.Proofs.Tryz
