import Derived.Test.YtdhlkpfmlimjfaaGreatDoorB2
set_option linter.unusedVariables false
open Go.IntKind (i64 u64 u32)
namespace Go.Eng
variable {P:Program} {T:cD} {n:Nat} {V0:View} {bf:Ce} {β0:Nat->Nat} {st:St} {β:Nat->Nat} {a:Act} {w:World} {V:View}
theorem Fi (hT:cD.ok P T)(hM:Mod n V0 bf β0 st β a w V){o:Oper}{sc:List Prop}{b:aH}{x:Nat->SV}(h:aE T st.aR st.boxes o.op=.new sc b x)(hsc:∀p∈sc,p) :
  ∃v,(execOp a.eval o).run P w=.ok (.value v) (w.alloc (b.obj β))/\(∀d,v=(x d).den (cW β d w.heap.size)/\(x d).ids=[d])/\(∀s∈b.cs.ids,∃b',st.boxes s=some b'):=by
 have hx:∀d,SV.den (cW β d w.heap.size) (.c (.ptr d 0))=.pointer (some ⟨w.heap.size,0,none⟩):=fun d=>by simp [SV.den,C.den,aK]
 have hy:∀d m c,SV.den (cW β d w.heap.size) (.c (.kD d 0 m c))=.slice (some ⟨w.heap.size,0,none⟩) m c:=fun d m c=>by simp [SV.den,C.den,aK]
 unfold aE at h
 split at h
 case h_1=>split at h<;>cases h
 case h_2=>split at h<;>cases h
 case h_3=>split at h<;>(try split at h)<;>cases h
 case h_4 op t hop=>
  split at h
  ·rename_i i hi
   obtain ⟨info,d,z,h1,h2,h3,h4,h5,h6,h7⟩:=aw (hT _ _ hi)
   simp only [Q.new.injEq] at h;obtain ⟨rfl,rfl,rfl⟩:=h
   obtain ⟨z1,z2⟩:=dF (β:=β) h7
   refine ⟨.pointer (some ⟨w.heap.size,0,none⟩),?_,fun d=>⟨(hx d).symm,rfl⟩,fun s hs=>by rw [show Cells.ids (.lit i.zero)=[] from z2] at hs;cases hs⟩
   simp only [execOp,hop]
   refine dg ?_
   simp only [Instr.alloc,Sem.run_bind,gK h1 h3,Result.andThen_ok,newVar,newRow,run_newObj,Sem.run_pure,aH.obj,Cells.den,z1]
   rfl
  ·cases h
 case h_5 op t y hop=>
  split at h
  ·rename_i v hv
   split at h
   ·cases h
   ·rename_i hnt
    simp only [Q.new.injEq] at h;obtain ⟨rfl,rfl,rfl⟩:=h
    obtain ⟨c1,-⟩:=SV.o_ (β:=β) hnt hsc
    refine ⟨.pointer (some ⟨w.heap.size,0,none⟩),?_,fun d=>⟨(hx d).symm,rfl⟩,fun s hs=>hM.live hv s (SV.pf hnt hs)⟩
    simp only [execOp,hop,hM.eval hv]
    refine dg ?_
    simp only [Instr.box,newVar,newRow,Sem.run_bind,run_newObj,Result.andThen_ok,Sem.run_pure,c1,aH.obj,Cells.den]
    rfl
  ·cases h
 case h_6=>
  split at h
  ·split at h
   ·split at h
    ·split at h<;>cases h
    ·cases h
   ·split at h
    ·split at h<;>cases h
    ·cases h
   ·cases h
  ·cases h
 case h_7 op t len parts hop=>
  split at h
  ·rename_i i ps hi hps
   split at h
   ·rename_i e hk
    split at h
    ·rename_i ei Az
     split at h
     ·rename_i hc
      simp only [Bool.and_eq_true,beq_eq,Bool.not_eq_eq_eq_not] at hc
      obtain ⟨⟨c1,c2⟩,c3⟩:=hc
      have c1:=Nat.le_of_ble_eq_true c1
      have c3:ei.size≠0:=fun e=>by rw [e] at c3;cases c3
      split at h
      ·rename_i cs hcs
       simp only [Q.new.injEq] at h;obtain ⟨rfl,rfl,rfl⟩:=h
       obtain ⟨h1,h2⟩:=sE hT hM (hT _ _ hi) hk hps Az c1 c2 c3 hcs hsc
       exact ⟨_,by simp only [execOp,hop];exact dg h1,fun d=>⟨(hy d _ _).symm,rfl⟩,h2⟩
      ·cases h
     ·cases h
    ·cases h
   ·cases h
  ·cases h
 case h_8=>
  split at h
  ·unfold hZ at h
   split at h
   ·split at h
    ·split at h
     ·split at h<;>cases h
     ·split at h<;>cases h
     ·split at h<;>cases h
    ·cases h
    ·split at h<;>cases h
    ·cases h
   ·split at h<;>cases h
   ·cases h
  ·cases h
 case h_9=>
  split at h
  ·unfold fI at h
   split at h
   ·split at h
    ·split at h
     ·split at h<;>cases h
     ·split at h<;>cases h
     ·split at h
      ·cases h
      ·split at h<;>cases h
     ·cases h
    ·cases h
   ·cases h
  ·cases h
 case h_10=>split at h<;>cases h
 case h_11=>
  split at h
  ·have key:∀{op xt} {p q:C},yZ T op xt p q≠.new sc b x:=by
    intro op xt p q h
    have hi:∀k m m',kT op k m m'≠.new sc b x:=fun k m m' h=>by cases op<;>cases h
    have hn:∀neg k,za neg k p q≠.new sc b x:=fun neg k h=>by
     unfold za at h
     split at h<;>(try split at h)<;>(try split at h)<;>cases h
    unfold yZ at h
    split at h
    ·split at h
     ·split at h
      ·split at h
       ·exact hi _ _ _ h
       ·exact hi _ _ _ h
       ·split at h
        ·exact hi _ _ _ h
        ·cases h
      ·cases h
     ·split at h
      ·split at h<;>cases h
      ·cases h
     ·split at h
      ·exact hn _ _ h
      ·exact hn _ _ h
      ·cases h
    ·cases h
   split at h
   ·split at h
    ·exact (key h).elim
    ·cases h
   ·exact (key h).elim
  ·cases h
 case h_12=>split at h<;>cases h
 case h_13=>split at h<;>cases h
 case h_14=>split at h<;>cases h
 case h_15=>
  split at h
  ·split at h<;>cases h
  ·cases h
 case h_16=>split at h<;>(try split at h)<;>(try split at h)<;>cases h
 case h_17 op t l c hop=>
  split at h
  ·rename_i i lv cv hi hl hc
   unfold xG at h
   split at h
   ·rename_i e hk
    split at h
    ·rename_i ei Az
     split at h
     ·rename_i k1 m1 k2 m2
      split at h
      ·rename_i zs hzs
       split at h
       ·cases h
       ·rename_i hcond
        simp only [Bool.or_eq_true,beq_eq,Bool.not_eq_eq_eq_not,not_or] at hcond
        obtain ⟨⟨g1,g2⟩,g3⟩:=hcond
        simp only [Q.new.injEq] at h;obtain ⟨rfl,rfl,rfl⟩:=h
        have g3:ei.size=zs.length:=by
         rcases hb:Nat.beq ei.size zs.length with _|_
         ·rw [hb] at g3;exact absurd rfl g3
         ·exact beq_eq.1 hb
        have hm:=vG (P:=P) (w:=w) (β:=β) hT (hT _ _ hi) hk Az (k1:=k1) (k2:=k2) (l:=m1) (c:=m2) g1 g2 hzs g3 (hsc _ (by simp)) (hsc _ (by simp)) (hsc _ (by simp))
        refine ⟨_,?_,fun d=>⟨(hy d _ _).symm,rfl⟩,fun s hs=>by simp [Cells.ids] at hs⟩
        simp only [execOp,hop,hM.eval hl,hM.eval hc]
        exact dg hm
      ·cases h
     ·cases h
    ·cases h
   ·cases h
  ·cases h
 case h_18=>
  split at h
  ·split at h
   ·split at h
    ·unfold pL at h
     split at h<;>(try split at h)<;>(try split at h)<;>cases h
    ·cases h
   ·cases h
  ·cases h
 case h_19=>
  split at h
  ·split at h
   ·split at h
    ·split at h
     ·split at h
      ·cases h
      ·split at h<;>cases h
     ·cases h
    ·cases h
   ·cases h
  ·cases h
 case h_20=>
  split at h
  ·split at h
   ·split at h
    ·split at h
     ·split at h
      ·cases h
      ·cases h
      ·split at h<;>cases h
     ·cases h
    ·cases h
   ·cases h
  ·cases h
 case h_21=>
  split at h
  ·unfold fH at h
   split at h
   ·split at h
    ·split at h
     ·split at h<;>cases h
     ·cases h
    ·split at h
     ·split at h<;>cases h
     ·cases h
    ·cases h
   ·cases h
  ·cases h
 case h_22=>split at h<;>(try split at h)<;>(try split at h)<;>cases h
 case h_23=>
  split at h
  ·split at h
   ·split at h
    ·split at h
     ·split at h
      ·unfold bS at h
       split at h
       ·cases h
       ·split at h
        ·cases h
        ·dsimp only at h
         split at h
         ·cases h
         ·split at h
          ·cases h
          ·split at h
           ·split at h<;>cases h
           ·cases h
          ·split at h
           ·split at h<;>cases h
           ·cases h
          ·cases h
      ·cases h
     ·cases h
    ·cases h
   ·cases h
  ·split at h
   ·exfalso
    rcases km (T:=T) (bx:=st.boxes) with e|⟨_,_,_,e⟩<;>(rw [e] at h;cases h)
   ·cases h
  ·split at h
   ·split at h
    ·unfold jG at h
     split at h
     ·cases h
     ·split at h<;>(try split at h)<;>(try split at h)<;>cases h
    ·cases h
   ·cases h
  ·cases h
 case h_24=>
  split at h
  ·split at h<;>cases h
  ·unfold jH at h
   split at h
   ·split at h
    ·split at h
     ·split at h<;>cases h
     ·cases h
    ·cases h
   ·cases h
  ·cases h
 case h_25=>
  split at h
  ·unfold ub at h
   split at h
   ·cases h
   ·split at h<;>cases h
  ·cases h
 case h_26=>cases h
def cE:Q->Nat
 | .fail=>0|.ret ..=>1|.new ..=>2|.qV ..=>3|.rd ..=>4|.mj ..=>5|.app ..=>6|.pH ..=>6
theorem mY {op:BinOp}{k:IntKind}{x y:Int}:cE (kT op k x y)<=1:=by cases op<;>exact Nat.le_refl _
theorem Bz {neg:Bool}{k:TK}{x y:C}:cE (za neg k x y)<=1:=by
 unfold za;split<;>(try split)<;>(try split)<;>first|exact Nat.le_refl _|exact Nat.zero_le _
theorem mo {i:TI}{cs:List C}{k:Int}:cE (jH T i cs k)<=1:=by
 unfold jH
 split
 ·split
  ·split
   ·split<;>first|exact Nat.le_refl _|exact Nat.zero_le _
   ·exact Nat.zero_le _
  ·exact Nat.zero_le _
 ·exact Nat.zero_le _
theorem oD {op:BinOp}{xt:TypeId}{x y:C}:cE (yZ T op xt x y)<=1:=by
 unfold yZ
 split
 ·split
  ·split
   ·split
    ·exact mY
    ·exact mY
    ·split
     ·exact mY
     ·exact Nat.zero_le _
   ·exact Nat.zero_le _
  ·split
   ·split<;>first|exact Nat.le_refl _|exact Nat.zero_le _
   ·exact Nat.zero_le _
  ·split
   ·exact Bz
   ·exact Bz
   ·exact Nat.zero_le _
 ·exact Nat.zero_le _
theorem uv {sz:Nat}{x:SV}{lo hi mx:Option SV}:cE (pL sz x lo hi mx)<=1:=by
 unfold pL;split<;>(try split)<;>(try split)<;>first|exact Nat.le_refl _|exact Nat.zero_le _
theorem lq {i:TI}{x ix:SV}:cE (fH T i x ix)<=1:=by
 unfold fH;split<;>(try split)<;>(try split)<;>(try split)<;>first|exact Nat.le_refl _|exact Nat.zero_le _
theorem oE {b:Builtin}{k:TK}{xs:List SV}:cE (jG b k xs)<=1:=by
 unfold jG;split<;>(try split)<;>(try split)<;>(try split)<;>first|exact Nat.le_refl _|exact Nat.zero_le _
theorem Fw {i:TI}{l c:SV}:cE (xG T i l c)=0\/cE (xG T i l c)=2:=by
 unfold xG;split<;>(try split)<;>(try split)<;>(try split)<;>(try split)<;>first|exact .inl rfl|exact .inr rfl
theorem m_ {bx:Nat->Option aH}{i:TI}{a x:SV}:cE (fI bx i a x)=0\/cE (fI bx i a x)=3:=by
 unfold fI;split<;>(try split)<;>(try split)<;>(try split)<;>(try split)<;>first|exact .inl rfl|exact .inr rfl
theorem pO {bx:Nat->Option aH}{i:TI}{x:SV}:cE (hZ bx i x)=0\/cE (hZ bx i x)=1\/cE (hZ bx i x)=4\/cE (hZ bx i x)=5:=by
 unfold hZ;split<;>(try split)<;>(try split)<;>(try split)<;>first|exact .inl rfl|exact .inr (.inl rfl)|exact .inr (.inr (.inl rfl))|exact .inr (.inr (.inr rfl))
theorem ll {bx:Nat->Option aH}{e:TypeId}{ei:TI}{b x:SV}:cE (bS bx e ei b x)=0\/cE (bS bx e ei b x)=6:=by
 unfold bS
 split
 ·exact .inl rfl
 ·split
  ·exact .inl rfl
  ·dsimp only
   split
   ·exact .inl rfl
   ·split<;>(try split)<;>(try split)<;>first|exact .inl rfl|exact .inr rfl
theorem mZ {bx:Nat->Option aH}{t:TypeId}{x:SV}:cE (kl T bx t x)=0\/cE (kl T bx t x)=3:=by
 rcases km (T:=T) (bx:=bx) (t:=t) (x:=x) with e|⟨_,_,_,e⟩<;>rw [e]<;>first|exact .inl rfl|exact .inr rfl
theorem eU {ρ:Operand->Option SV}{bx:Nat->Option aH}{op:Op} :
  (cE (aE T ρ bx op)=3->((∃t a x,op=.store t a x)\/∃c,op=.call c/\c.callee=.builtin .clear))/\(cE (aE T ρ bx op)=4\/cE (aE T ρ bx op)=5->∃t a,op=.load t a) /\
  (cE (aE T ρ bx op)=6->∃c,op=.call c/\c.callee=.builtin .append):=by
 have eY:∀{q:Q},cE q<=1->(cE q=3->((∃t a x,op=.store t a x)\/∃c,op=.call c/\c.callee=.builtin .clear))/\(cE q=4\/cE q=5->∃t a,op=.load t a)/\(cE q=6->∃c,op=.call c/\c.callee=.builtin .append):=by
  intro q h;exact ⟨by omega,by omega,by omega⟩
 have Uz:∀{q:Q},cE q=0\/cE q=2->(cE q=3->((∃t a x,op=.store t a x)\/∃c,op=.call c/\c.callee=.builtin .clear))/\(cE q=4\/cE q=5->∃t a,op=.load t a)/\(cE q=6->∃c,op=.call c/\c.callee=.builtin .append):=by
  intro q h;exact ⟨by omega,by omega,by omega⟩
 unfold aE
 split
 case h_8=>
  split
  ·refine ⟨fun h=>?_,fun _=>⟨_,_,rfl⟩,fun h=>?_⟩
   ·rcases pO (bx:=bx) with h'|h'|h'|h'<;>(rw [h'] at h;cases h)
   ·rcases pO (bx:=bx) with h'|h'|h'|h'<;>(rw [h'] at h;cases h)
  ·exact eY (Nat.zero_le _)
 case h_9=>
  split
  ·refine ⟨fun _=>.inl ⟨_,_,_,rfl⟩,fun h=>?_,fun h=>?_⟩
   ·rcases m_ (bx:=bx) with h'|h'<;>(rw [h'] at h;rcases h with h|h<;>cases h)
   ·rcases m_ (bx:=bx) with h'|h'<;>(rw [h'] at h;cases h)
  ·exact eY (Nat.zero_le _)
 case h_11=>
  split
  ·split
   ·split
    ·exact eY oD
    ·exact eY (Nat.zero_le _)
   ·exact eY oD
  ·exact eY (Nat.zero_le _)
 case h_17=>
  split
  ·exact Uz Fw
  ·exact eY (Nat.zero_le _)
 case h_18=>
  split
  ·split
   ·split
    ·exact eY uv
    ·exact eY (Nat.zero_le _)
   ·exact eY (Nat.zero_le _)
  ·exact eY (Nat.zero_le _)
 case h_21=>
  split
  ·exact eY lq
  ·exact eY (Nat.zero_le _)
 case h_23 c=>
  split
  ·rename_i hc
   refine ⟨fun h=>?_,fun h=>?_,fun _=>⟨c,rfl,hc⟩⟩
   ·exfalso
    split at h<;>(try split at h)<;>(try split at h)<;>(try split at h)<;>first|(rcases ll (bx:=bx) with h'|h'<;>(rw [h'] at h;cases h))|cases h
   ·exfalso
    split at h<;>(try split at h)<;>(try split at h)<;>(try split at h)<;>first|(rcases ll (bx:=bx) with h'|h'<;>(rw [h'] at h;rcases h with h|h<;>cases h))|(rcases h with h|h<;>cases h)
  ·rename_i hc
   split
   ·refine ⟨fun _=>.inr ⟨c,rfl,hc⟩,fun h=>?_,fun h=>?_⟩
    ·rcases mZ (T:=T) (bx:=bx) with h'|h'<;>(rw [h'] at h;rcases h with h|h<;>cases h)
    ·rcases mZ (T:=T) (bx:=bx) with h'|h'<;>(rw [h'] at h;cases h)
   ·exact eY (Nat.zero_le _)
  ·split
   ·split
    ·exact eY oE
    ·exact eY (Nat.zero_le _)
   ·exact eY (Nat.zero_le _)
  ·exact eY (Nat.zero_le _)
 case h_24=>
  split
  ·split
   ·exact eY (Nat.le_refl _)
   ·exact eY (Nat.zero_le _)
  ·exact eY mo
  ·exact eY (Nat.zero_le _)
 case h_25=>
  split
  ·unfold ub
   split
   ·exact eY (Nat.zero_le _)
   ·split
    ·exact eY (Nat.le_refl _)
    ·exact eY (Nat.zero_le _)
  ·exact eY (Nat.zero_le _)
 all_goals
  first
  | exact eY (Nat.zero_le _)
  | ((repeat' split)<;>first|exact eY (Nat.zero_le _)|exact eY (Nat.le_refl _)|exact Uz (.inr rfl))
theorem C8 (hT:cD.ok P T)(hM:Mod n V0 bf β0 st β a w V){t:TypeId}{x:SV}{sc:List Prop}{s:Nat}{b:aH}(h:kl T st.boxes t x=.qV sc s b)(hsc:∀p∈sc,p)(ty:TypeId)(cs:Array Bool) :
  ∃w',(builtin .clear #[t] ty cs #[x.den β]).run P w=.ok (.value (.tuple #[])) w'/\Mod n V0 bf β0 (st.box s b) β a w' V:=by
 unfold kl at h
 split at h
 ·rename_i i hi
  split at h
  ·rename_i e hk
   split at h
   ·rename_i ei Az
    split at h
    ·rename_i zs g o k c hz
     split at h
     ·rename_i vs et hb
      split at h
      ·cases h
      ·rename_i hc
       simp only [Q.qV.injEq] at h;obtain ⟨rfl,rfl,rfl⟩:=h
       simp only [Bool.or_eq_true,beq_eq,Bool.not_eq_true',not_or,Bool.not_eq_false,List.all_eq_true] at hc
       obtain ⟨⟨c1,c2⟩,c3⟩:=hc
       obtain ⟨info,d,z,h1,h2,h3,h4,h5,h6,h7⟩:=aw (hT _ _ hi)
       obtain ⟨fQ,ed,ez,e1,e2,e3,e4,e5,e6,e7⟩:=aw (hT _ _ Az)
       rw [h4] at hk
       obtain rfl:=aN hk
       obtain ⟨z1,z2⟩:=dF (β:=β) e7
       obtain ⟨d1,-⟩:=eW (β:=β) hz
       have hzs:ez.cells.size=fQ.size:=by rw [←z1,d1];simp [←e5,c2]
       have WB:ez.cells.toList=zs:=by rw [←d1,←z1]
       have hle:o+k*ei.size<=vs.length:=hsc _ (by simp)
       have hzl:∀m,(nA m zs).length=m*ei.size:=fun m=>by
        rw [oP,c2]
        simp [List.length_flatten]
       have hz1:∀v∈nA k zs,v.oneCell'=true:=fun v hv=>by
        rw [oP] at hv
        obtain ⟨l,hl,hv⟩:=List.mem_flatten.1 hv
        rw [List.eq_of_mem_replicate hl] at hv
        exact c3 v hv
       have hrow:w.heap[β g]?=some (.cells vs.toArray et (0,0)):=hM.row hb bV
       have key:=run_storeCells_at (P:=P) (β g) o et (nA k zs) 0 vs.toArray w hrow (by simpa [hzl] using hle) hz1
       simp only [Nat.add_zero,hzl] at key
       refine ⟨w.setRow (β g) (vs.take o++nA k zs++vs.drop (o+k*ei.size)).toArray,?_,hM.qV hb bV (by intro s' hs';simp [Cells.ids] at hs') (by rw [dE hrow];rfl) rfl rfl rfl⟩
       have hrun:(Builtin.clear_ #[t] ty #[SV.den β (.c (.kD g o k c))]).run P w=.ok (.tuple #[]) (w.setRow (β g) (vs.take o++nA k zs++vs.drop (o+k*ei.size)).toArray):=by
        cases k with
        | zero=>
         have e0:(vs.take o++nA 0 zs++vs.drop (o+0*ei.size)).toArray=vs.toArray:=by
          rw [oP];simp
         rw [e0,setRow_self w (β g) vs.toArray et (0,0) hrow]
         simp [Builtin.clear_,ag h2,SV.den,C.den]
        | succ k=>
         have ek:(Builtin.zeroCells ez.cells (k+1)).toList=nA (k+1) zs:=by
          unfold Builtin.zeroCells
          rw [oU (z:=ez) (m:=k+1) _ rfl,oP,WB]
         have W3:(zeroValue e).run P w=.ok ez w:=gK e1 e3 w
         simp only [List.append_assoc] at key ⊢
         simp [Builtin.clear_,ag h2,SV.den,C.den,W3,ek,key]
       simp only [builtin]
       exact dg hrun
     ·cases h
    ·cases h
   ·cases h
  ·cases h
 ·cases h
theorem Fk (hT:cD.ok P T)(hM:Mod n V0 bf β0 st β a w V){o:Oper}{sc:List Prop}{s:Nat}{b:aH}(h:aE T st.aR st.boxes o.op=.qV sc s b)(hsc:∀p∈sc,p) :
  ∃nx w',(execOp a.eval o).run P w=.ok nx w'/\(nx=.skip\/∃v,nx=.value v)/\Mod n V0 bf β0 (st.box s b) β a w' V:=by
 rcases (eU (T:=T) (ρ:=st.aR) (bx:=st.boxes) (op:=o.op)).1 (by rw [h];rfl) with ⟨t,y,x,hop⟩|⟨c,hop,nT⟩
 ·rw [hop] at h
  simp only [aE] at h
  split at h
  ·rename_i i av xv hi FH hxv
   obtain ⟨w',h1,h2⟩:=C_ hM (hT _ _ hi) (hM.live hxv) h hsc
   refine ⟨.skip,w',?_,.inl rfl,h2⟩
   simp only [execOp,hop,hM.eval FH,hM.eval hxv]
   exact O7 h1
  ·cases h
 ·obtain ⟨DP,args,ts⟩:=c
  dsimp only at nT
  subst nT
  rw [hop] at h
  simp only [aE] at h
  split at h
  ·rename_i x t hxs hts
   obtain ⟨h1,-⟩:=eT hM _ _ hxs
   have e1:ts=#[t]:=by apply Array.ext';exact hts
   have e2:args.map a.eval=#[x.den β]:=by apply Array.ext';rw [Array.toList_map];exact h1
   obtain ⟨w',k1,k2⟩:=C8 hT hM h hsc o.type (args.map fun|.const _=>true|_=>false)
   refine ⟨.value (.tuple #[]),w',?_,.inr ⟨_,rfl⟩,k2⟩
   simp only [execOp,hop,resolve,pure_bind,invoke,e1,e2]
   exact k1
  ·cases h
theorem HC (hT:cD.ok P T)(hM:Mod n V0 bf β0 st β a w V){o:Oper}{p:OA}{sh:rW}(h:aE T st.aR st.boxes o.op=.rd p sh){x:SV}{k:Prop}
  (hx:x.ids=[])(hs:(∃c,x=.c c/\∃s',sh=.one s')\/∃cs l,x=.agg cs/\sh=.agg l/\cs.length=l.length)(hr:V.Is p x k) :
  (execOp a.eval o).run P w=.ok (.value (x.den β)) w/\k:=by
 obtain ⟨t,y,hop⟩:=(eU (T:=T) (ρ:=st.aR) (bx:=st.boxes) (op:=o.op)).2.1 (by rw [h];exact .inl rfl)
 rw [hop] at h
 simp only [aE] at h
 split at h
 ·rename_i i av hi FH
  unfold hZ at h
  split at h
  ·split at h
   ·split at h
    ·split at h<;>cases h
    ·split at h<;>cases h
    ·split at h<;>cases h
   ·cases h
   ·split at h<;>cases h
   ·cases h
  ·split at h
   ·rename_i hz
    simp only [Q.rd.injEq] at h
    obtain ⟨rfl,rfl⟩:=h
    obtain ⟨h1,h2⟩:=Mi hM (hT _ _ hi) (beq_eq.1 hz) hx hs hr
    refine ⟨?_,h2⟩
    simp only [execOp,hop,hM.eval FH]
    exact dg h1
   ·cases h
  ·cases h
 ·cases h
theorem Bi (hT:cD.ok P T)(hM:Mod n V0 bf β0 st β a w V){o:Oper}{vs:List Value}{of size:Nat}{sh:rW}(h:aE T st.aR st.boxes o.op=.mj vs of size sh){x:SV}
  (hx:x.ids=[])(hs:(∃c,x=.c c/\∃s',sh=.one s')\/∃cs l,x=.agg cs/\sh=.agg l/\cs.length=l.length)(hr:JA vs of size x) :
  (execOp a.eval o).run P w=.ok (.value (x.den β)) w:=by
 obtain ⟨t,y,hop⟩:=(eU (T:=T) (ρ:=st.aR) (bx:=st.boxes) (op:=o.op)).2.1 (by rw [h];exact .inr rfl)
 rw [hop] at h
 simp only [aE] at h
 split at h
 ·rename_i i av hi FH
  unfold hZ at h
  split at h
  ·split at h
   ·split at h
    ·split at h<;>cases h
    ·split at h<;>cases h
    ·split at h<;>cases h
   ·rename_i hb
    simp only [Q.mj.injEq] at h
    obtain ⟨rfl,rfl,rfl,rfl⟩:=h
    have h1:=xH hM (hT _ _ hi) (.inl hb) hx hs hr
    simp only [execOp,hop,hM.eval FH]
    exact dg h1
   ·rename_i hb
    split at h
    ·cases h
    ·rename_i hz
     simp only [Q.mj.injEq] at h
     obtain ⟨rfl,rfl,rfl,rfl⟩:=h
     have h1:=xH hM (hT _ _ hi) (.inr ⟨hb,fun e=>hz (by rw [e];rfl)⟩) hx hs hr
     simp only [execOp,hop,hM.eval FH]
     exact dg h1
   ·cases h
  ·split at h<;>cases h
  ·cases h
 ·cases h
end Go.Eng
namespace Go.Eng
variable {P:Program} {T:cD} {n:Nat} {V0:View} {bf:Ce} {β0:Nat->Nat} {st:St} {β:Nat->Nat} {a:Act} {w:World} {V:View}
theorem bW {x:Nat}{l:List Nat}:dP x l=true↔x∈l:=by
 induction l with
 | nil=>simp [dP]
 | cons y r ih=>
  simp only [dP,List.mem_cons]
  cases h:Nat.beq x y with
  | true=>simp [beq_eq.1 h]
  | false=>
   have:x≠y:=fun e=>by rw [e,Nat.beq_refl] at h;cases h
   simp [ih,this]
theorem eH {x:Nat}{l:List Nat}:dP x l=false↔x∉l:=by
 rw [←bW];cases dP x l<;>simp
theorem As {l m:List Nat}:tg l m=true↔∀x∈l,x∉m:=by
 unfold tg
 rw [List.all_eq_true]
 constructor
 ·intro h x hx hm
  have:=h x hx
  rw [Bool.not_eq_true',eH] at this
  exact this hm
 ·intro h x hx
  rw [Bool.not_eq_true',eH]
  exact h x hx
theorem C.fO {L:List Nat}{β':Nat->Nat}(hβ:∀s∈L,β' s=β s)(c:C):(c.rel L β' (C.den β)).den β=c.den β/\∀s∈(c.rel L β' (C.den β)).ids,s∈c.ids/\s∉L:=by
 cases c with
 | v x=>exact ⟨rfl,fun s hs=>by cases hs⟩
 | w x=>exact ⟨rfl,fun s hs=>by cases hs⟩
 | tt=>exact ⟨rfl,fun s hs=>by cases hs⟩
 | ff=>exact ⟨rfl,fun s hs=>by cases hs⟩
 | ptr s o=>
  simp only [C.rel]
  cases h:dP s L with
  | true=>exact ⟨by simp [C.den,hβ s (bW.1 h)],fun s hs=>by cases hs⟩
  | false=>exact ⟨rfl,fun t ht=>⟨ht,by simp [C.ids] at ht;subst ht;exact eH.1 h⟩⟩
 | kD s o n c=>
  simp only [C.rel]
  cases h:dP s L with
  | true=>exact ⟨by simp [C.den,hβ s (bW.1 h)],fun s hs=>by cases hs⟩
  | false=>exact ⟨rfl,fun t ht=>⟨ht,by simp [C.ids] at ht;subst ht;exact eH.1 h⟩⟩
 | ir s n c=>
  simp only [C.rel]
  cases h:dP s L with
  | true=>exact ⟨by simp [C.den,hβ s (bW.1 h)],fun s hs=>by cases hs⟩
  | false=>exact ⟨rfl,fun t ht=>⟨ht,by simp [C.ids] at ht;subst ht;exact eH.1 h⟩⟩
 | yx f ss=>
  simp only [C.rel]
  cases h:tg ss L with
  | true=>exact ⟨rfl,fun t ht=>⟨ht,As.1 h t ht⟩⟩
  | false=>exact ⟨rfl,fun s hs=>by cases hs⟩
theorem oq {L:List Nat}{β':Nat->Nat}(hβ:∀s∈L,β' s=β s)(cs:List C) :
  (cs.map (C.rel L β' (C.den β))).map (C.den β)=cs.map (C.den β)/\∀s∈(cs.map (C.rel L β' (C.den β))).flatMap C.ids,s∈cs.flatMap C.ids/\s∉L:=by
 refine ⟨?_,fun s hs=>?_⟩
 ·rw [List.map_map];exact List.map_congr_left fun c _=>(C.fO hβ c).1
 ·obtain ⟨c',hc',hs⟩:=List.mem_flatMap.1 hs
  obtain ⟨c,hc,rfl⟩:=List.mem_map.1 hc'
  obtain ⟨h1,h2⟩:=(C.fO hβ c).2 s hs
  exact ⟨fS hc h1,h2⟩
theorem SV.fO {L:List Nat}{β':Nat->Nat}(hβ:∀s∈L,β' s=β s)(x:SV):(x.rel L β' (C.den β)).den β=x.den β/\∀s∈(x.rel L β' (C.den β)).ids,s∈x.ids/\s∉L:=by
 cases x with
 | c c=>exact C.fO hβ c
 | agg cs=>
  obtain ⟨h1,h2⟩:=oq hβ cs
  exact ⟨by simp only [SV.rel,SV.den,h1],h2⟩
 | nC xs=>
  refine ⟨?_,fun s hs=>?_⟩
  ·simp only [SV.rel,SV.den,List.map_map]
   congr 2
   apply List.map_congr_left
   rintro ⟨b,cs⟩ -
   have h1:=(oq hβ cs).1
   cases b with
   | true=>simp only [Function.comp,gx,h1]
   | false=>
    match cs with
    | []=>rfl
    | [x]=>simp only [Function.comp,List.map_cons,List.map_nil,gx];exact (C.fO hβ x).1
    | _::_::_=>rfl
  ·obtain ⟨y',hy',hs⟩:=List.mem_flatMap.1 hs
   obtain ⟨y,hy,rfl⟩:=List.mem_map.1 hy'
   obtain ⟨h1,h2⟩:=(oq hβ y.2).2 s hs
   exact ⟨List.mem_flatMap.2 ⟨y,hy,h1⟩,h2⟩
theorem aH.fO {L:List Nat}{β':Nat->Nat}(hβ:∀s∈L,β' s=β s)(b:aH):(b.rel L β' (C.den β)).obj β=b.obj β/\∀s∈(b.rel L β' (C.den β)).cs.ids,s∈b.cs.ids/\s∉L:=by
 obtain ⟨cs,ty⟩:=b
 cases cs with
 | lit cs=>
  obtain ⟨h1,h2⟩:=oq hβ cs
  exact ⟨by simp only [aH.rel,aH.obj,Cells.den,h1],h2⟩
 | row vs=>exact ⟨rfl,fun s hs=>by cases hs⟩
 | aO vs=>exact ⟨rfl,fun s hs=>by cases hs⟩
theorem aH.eh {L:List Nat}{β':Nat->Nat}{J:C->Value}{b:aH}(h:(b.rel L β' J).live):b.live:=by
 obtain ⟨cs,ty⟩:=b
 cases cs with
 | lit cs=>exact ck
 | row vs=>exact bV
 | aO vs=>exact h
theorem xJ {L:List Nat}{β':Nat->Nat}{J:C->Value}{t:Nat}{x:SV}(h:(st.rel L β' J).ao t=some x):∃y,st.ao t=some y/\x=y.rel L β' J:=by
 simp only [St.rel] at h
 cases hs:st.ao t with
 | none=>rw [hs] at h;cases h
 | some y=>rw [hs] at h;simp only [Option.some.injEq] at h;exact ⟨y,rfl,h.symm⟩
theorem eV {L:List Nat}{β':Nat->Nat}{J:C->Value}{t:Nat}{x:aH}(h:(st.rel L β' J).boxes t=some x):t∉L/\∃y,st.boxes t=some y/\x=y.rel L β' J:=by
 simp only [St.rel] at h
 cases hm:dP t L with
 | true=>rw [hm] at h;cases h
 | false=>
  rw [hm] at h
  refine ⟨eH.1 hm,?_⟩
  cases hs:st.boxes t with
  | none=>rw [hs] at h;cases h
  | some y=>rw [hs] at h;simp only [cond_false,Option.some.injEq] at h;exact ⟨y,rfl,h.symm⟩
theorem eh {L:List Nat}{β':Nat->Nat}{J:C->Value}{t:Nat}(h:∃b,st.boxes t=some b)(hn:t∉L):∃b,(st.rel L β' J).boxes t=some b:=by
 obtain ⟨b,hb⟩:=h
 refine ⟨b.rel L β' J,?_⟩
 simp only [St.rel,eH.2 hn,hb,cond_false]
theorem Mod.rel (h:Mod n V0 bf β0 st β a w V){L:List Nat}{β':Nat->Nat}(hβ:∀s∈L,β' s=β s):Mod n V0 bf β0 (st.rel L β' (C.den β)) β a w V where
 defers:=h.defers
 size:=h.size
 ao:=by
  intro t x hx
  obtain ⟨y,hy,rfl⟩:=xJ hx
  rw [h.ao t y hy,(SV.fO hβ y).1]
 vh:=by
  intro t x hx s hs
  obtain ⟨y,hy,rfl⟩:=xJ hx
  obtain ⟨h1,h2⟩:=(SV.fO hβ y).2 s hs
  exact eh (h.vh t y hy s h1) h2
 vg:=by
  intro t b hb s hs
  obtain ⟨-,y,hy,rfl⟩:=eV hb
  obtain ⟨h1,h2⟩:=(aH.fO hβ y).2 s hs
  exact eh (h.vg t y hy s h1) h2
 boxes:=by
  intro t b hb l
  obtain ⟨-,y,hy,rfl⟩:=eV hb
  rw [h.boxes t y hy (aH.eh l),(aH.fO hβ y).1]
 inj:=by
  intro t t' b b' hb l hb' l' he
  obtain ⟨-,y,hy,rfl⟩:=eV hb
  obtain ⟨-,y',hy',rfl⟩:=eV hb'
  exact h.inj t t' y y' hy (aH.eh l) hy' (aH.eh l') he
 my:=h.my
 qS:=by
  intro t b hb l
  obtain ⟨-,y,hy,rfl⟩:=eV hb
  exact h.qS t y hy (aH.eh l)
 ext:=h.ext
 own:=by
  intro t b hb l
  obtain ⟨-,y,hy,rfl⟩:=eV hb
  exact h.own t y hy (aH.eh l)
 jQ:=h.jQ
 iT:=h.iT
 small:=h.small
theorem Mod.gi (h:Mod n V0 bf β0 st β a w V){d g:Nat}{b:aH}(hd:d<n\/200000<=d)(hn:st.boxes d=none)(eX:b.cs.ids=[])
  (hg:∀s b',st.boxes s=some b'->b'.live->β s≠g)(hV:∀o,¬V.aZ g o)(hown:V0.w.heap.size<=g\/(100000<=d/\bf.B g)){w':World}
  (hw:w'.heap[g]?=some (b.obj β))(hk:∀i,i<w.heap.size->i≠g->w'.heap[i]?=w.heap[i]?)(hsz:w.heap.size<=w'.heap.size)(hos:w'.os=w.os)(ht:w'.tape=w.tape)(hout:w'.output=w.output) :
  Mod n V0 bf β0 (st.box d b) (cW β d g) a w' V:=by
 have hne:∀s b',st.boxes s=some b'->s≠d:=fun s b' hs e=>by rw [e,hn] at hs;cases hs
 have hβ:∀s b',st.boxes s=some b'->cW β d g s=β s:=fun s b' hs=>fu _ _ (hne s b' hs)
 have hlt:∀s b',st.boxes s=some b'->b'.live->β s<w.heap.size:=fun s b' hs l=>ar (h.boxes s b' hs l)
 have Wu:∀b' o,V.aZ b' o->b'<w.heap.size:=fun b' o hb=>ar (h.my b' o hb).1
 refine ⟨h.defers,h.size,?_,?_,?_,?_,?_,?_,?_,?_,?_,?_,h.iT,h.small⟩
 ·intro t x hx
  rw [h.ao t x hx]
  exact SV.bw fun s hs=>by obtain ⟨b',hb'⟩:=h.vh t x hx s hs;exact (hβ s b' hb').symm
 ·intro t x hx s hs
  obtain ⟨b',hb'⟩:=h.vh t x hx s hs
  exact ⟨b',by rw [ah,if_neg (hne s b' hb')];exact hb'⟩
 ·intro s b' hs s' hs'
  rw [ah] at hs
  split at hs
  ·simp only [Option.some.injEq] at hs;rw [←hs,eX] at hs';cases hs'
  ·obtain ⟨b'',jy⟩:=h.vg s b' hs s' hs'
   exact ⟨b'',by rw [ah,if_neg (hne s' b'' jy)];exact jy⟩
 ·intro s b' hs l
  rw [ah] at hs
  split at hs
  ·rename_i e
   simp only [Option.some.injEq] at hs
   rw [e,aK,hw,←hs]
   congr 1
   exact aH.cj fun s' hs'=>by rw [eX] at hs';cases hs'
  ·rw [hβ s b' hs,hk _ (hlt s b' hs l) (hg s b' hs l),h.boxes s b' hs l]
   congr 1
   exact aH.cj fun s' hs'=>by obtain ⟨b'',jy⟩:=h.vg s b' hs s' hs';exact (hβ s' b'' jy).symm
 ·intro s s' b1 b2 h1 l1 h2 l2 he
  rw [ah] at h1 h2
  split at h1<;>split at h2
  ·rename_i e1 e2;rw [e1,e2]
  ·rename_i e1 e2;rw [e1,aK,hβ s' b2 h2] at he;exact absurd he.symm (hg s' b2 h2 l2)
  ·rename_i e1 e2;rw [e2,aK,hβ s b1 h1] at he;exact absurd he (hg s b1 h1 l1)
  ·rw [hβ s b1 h1,hβ s' b2 h2] at he;exact h.inj s s' b1 b2 h1 l1 h2 l2 he
 ·intro b' o hb
  obtain ⟨h1,h2⟩:=h.my b' o hb
  refine ⟨?_,h2⟩
  rw [hk _ (Wu b' o hb) (fun e=>hV o (e▸hb))]
  exact h1
 ·intro s b' hs l o ho'
  rw [ah] at hs
  split at hs
  ·rename_i e;rw [e,aK] at ho';exact hV o ho'
  ·rw [hβ s b' hs] at ho';exact h.qS s b' hs l o ho'
 ·refine ⟨Nat.le_trans h.ext.size hsz,fun i hi hX=>?_,hos.trans h.ext.os,ht.trans h.ext.tape,hout.trans h.ext.out⟩
  rw [hk i (Nat.lt_of_lt_of_le hi h.ext.size) (fun e=>by
   rcases hown with h1|h1
   ·omega
   ·exact hX (e▸h.iT _ h1.2))]
  exact h.ext.aZ i hi hX
 ·intro s b' hs l
  rw [ah] at hs
  split at hs
  ·rename_i e;rw [e,aK];exact hown
  ·rw [hβ s b' hs];exact h.own s b' hs l
 ·intro s hs
  obtain ⟨h1,h2⟩:=h.jQ s hs
  exact ⟨h1,by rw [fu _ _ (by have:=h.small;omega)];exact h2⟩
theorem wM {t t' e e':TypeId}{ty:TypeId}(ht:P.underlying t=some (.slice e))(AD:P.underlying t'=some (.slice e'))(b xa:OA)(m c k xc:Nat) :
  (Builtin.append_ #[t,t'] ty #[.slice b m c,.slice xa k xc]).run P w=(Builtin.append_ #[t,t] ty #[.slice b m c,.slice xa k xc]).run P w:=by
 simp [Builtin.append_,ag ht,ag AD]
theorem sk {t e:TypeId}{ty:TypeId}{info:TypeInfo}(ht:P.underlying t=some (.slice e))(hi:P.info? e=some info)(base:OA)(m c c':Nat)(hc:m<=c) :
  (Builtin.append_ #[t,t] ty #[.slice base m c,.slice none 0 c']).run P w=.ok (.slice base m c) w:=by
 cases base<;>simp [Builtin.append_,ag ht,aC hi,Builtin.lenOf,Builtin.firstCells,storeCells,hc]
theorem kI (hM:Mod n V0 bf β0 st β a w V){s:Nat}{vs:List Value}{ty:TypeId}(h:dG st.boxes s=some vs)(ht:jq st.boxes s=some ty):w.heap[β s]?=some (.cells vs.toArray ty (0,0))/\∃b,st.boxes s=some b/\b.live:=by
 unfold dG at h
 unfold jq at ht
 split at h
 ·rename_i cs ty' hb
  rw [hb] at ht
  simp only [Option.some.injEq] at ht;subst ht
  have:=hM.row hb ck
  simp only [Cells.den,(eW (β:=β) h).1] at this
  exact ⟨this,_,hb,ck⟩
 ·rename_i ws ty' hb
  rw [hb] at ht
  simp only [Option.some.injEq,Option.some.injEq] at ht h;subst ht;subst h
  exact ⟨hM.row hb bV,_,hb,bV⟩
 ·cases h
theorem Ck {bx:Nat->Option aH}{s:Nat}{vs:List Value}(h:dG bx s=some vs):∃ty,jq bx s=some ty:=by
 unfold dG at h
 unfold jq
 split at h
 ·rename_i hb;rw [hb];exact ⟨_,rfl⟩
 ·rename_i hb;rw [hb];exact ⟨_,rfl⟩
 ·cases h
theorem um (hM:Mod n V0 bf β0 st β a w V){ad:Addr}{xs:List Value}(h:V.sl (some ad) xs):∀j v,xs[j]?=some v->w.cell? (ad.add j)=some v:=by
 intro j v hj
 obtain ⟨ad',e,hat⟩:=h j v hj
 simp only [Option.some.injEq] at e
 subst e
 exact hM.Qf hat
def Src (w:World)(xa:OA)(k size:Nat)(xs:List Value):Prop:=
 xs.length=k*size/\(∀v∈xs,v.oneCell'=true)/\((∃ad,xa=some ad/\∀j v,xs[j]?=some v->w.cell? (ad.add j)=some v)\/xa=none/\k=0)
theorem FX {t e ty:TypeId}{info:TypeInfo}(ht:P.underlying t=some (.slice e))(hi:P.info? e=some info){g m c k xc:Nat}{vs xs:List Value}{xa:OA}
  (hg:w.heap[g]?=some (.cells vs.toArray e (0,0)))(hx:Src w xa k info.size xs)(hc:m+k<=c)(hv:c*info.size<=vs.length) :
  ∃w',(Builtin.append_ #[t,t] ty #[.slice (some ⟨g,0,none⟩) m c,.slice xa k xc]).run P w=.ok (.slice (some ⟨g,0,none⟩) (m+k) c) w' /\
   w'.heap=w.heap.setIfInBounds g (.cells (vs.take (m*info.size)++xs++vs.drop (m*info.size+xs.length)).toArray e (0,0))/\w'.os=w.os/\w'.tape=w.tape/\w'.output=w.output:=by
 obtain ⟨hl,h1,hx⟩:=hx
 rcases hx with ⟨ad,rfl,hcells⟩|⟨rfl,rfl⟩
 ·have hfit:m*info.size+xs.length<=vs.length:=by
   rw [hl,←Nat.add_mul]
   exact Nat.le_trans (Nat.mul_le_mul_right _ hc) hv
  have hr:=run_append_room (P:=P) w t ty e info ht hi g m c vs.toArray hg ad k xc xs hl hcells h1 hc (by simpa using hfit)
  exact ⟨_,hr,by rw [dE hg],rfl,rfl,rfl⟩
 ·have hx0:xs=[]:=List.length_eq_zero_iff.1 (by simpa using hl)
  subst hx0
  refine ⟨w,?_,?_,rfl,rfl,rfl⟩
  ·simpa using sk (P:=P) (w:=w) (ty:=ty) ht hi (some ⟨g,0,none⟩) m c xc (by omega)
  ·simp only [List.append_nil,List.length_nil,Nat.add_zero,List.take_append_drop]
   apply Array.ext_getElem?
   intro i
   rw [Array.getElem?_setIfInBounds]
   split
   ·rename_i e;rw [←e,if_pos (ar hg)];exact hg
   ·rfl
theorem wL {t e ty:TypeId}{info:TypeInfo}{z:Value}(ht:P.underlying t=some (.slice e))(hi:P.info? e=some info)(hz:info.zero=some z)(hzs:z.cells.size=info.size)
  {m c k xc:Nat}{olds xs:List Value}{base xa:OA}
  (hbase:(∃b,base=some b/\olds.length=m*info.size/\∀j v,olds[j]?=some v->w.cell? (b.add j)=some v)\/base=none/\m=0/\c=0/\olds=[])
  (hx:Src w xa k info.size xs)(hc:c<m+k)(hb:(m+k)*info.bytes<=140737488355328)(hb0:info.bytes≠0)(hmc:m<=c) :
  ∃(c':Nat)(rest:List Value)(w':World),m+k<=c'/\(m+k)*info.size+rest.length=c'*info.size/\w'.heap=w.heap/\w'.os=w.os/\w'.tape=w.tape/\w'.output=w.output /\
   (Builtin.append_ #[t,t] ty #[.slice base m c,.slice xa k xc]).run P w=.ok (.slice (some ⟨w.heap.size,0,none⟩) (m+k) c') (w'.alloc (.cells (olds++xs++rest).toArray e)):=by
 obtain ⟨hl,h1,hx⟩:=hx
 have h63:(m+k:Nat)<=140737488355328:=by
  have:(m+k)*1<=(m+k)*info.bytes:=Nat.mul_le_mul_left _ (by omega)
  omega
 have hrest:∀N,(m+k)<=N->(m+k)*info.size+(Builtin.zeroCells z.cells (N-(m+k))).toList.length=N*info.size:=by
  intro N hN
  rw [Array.length_toList,size_zeroCells,hzs,←Nat.add_mul]
  congr 1;omega
 rcases hx with ⟨ad,rfl,hcells⟩|⟨rfl,rfl⟩
 ·rcases hbase with ⟨b,rfl,ho,hold⟩|⟨rfl,rfl,rfl,rfl⟩
  ·have hr:=run_append_grow (P:=P) w t ty e info z ht hi hz b m c olds ho hold ad k xc xs hl hcells hc (by omega) (growslice_fits hc hb)
   refine ⟨_,(Builtin.zeroCells z.cells (grownCap w (m+k) c e-(m+k))).toList,w.drew,grownCap_ge w (m+k) c e,hrest _ (grownCap_ge w (m+k) c e),rfl,rfl,rfl,rfl,?_⟩
   rw [hr]
   congr 3
   apply Array.ext'
   simp
  ·simp only [Nat.zero_add] at hc hb h63 hrest ⊢
   have hr:=run_append_nil (P:=P) w t ty e info z ht hi hz ad k xc xs hl hcells (by omega) (by omega) (by omega)
   refine ⟨_,(Builtin.zeroCells z.cells (grownCap w k 0 e-k)).toList,w.drew,grownCap_ge w k 0 e,hrest _ (grownCap_ge w k 0 e),rfl,rfl,rfl,rfl,?_⟩
   rw [hr]
   congr 3
   apply Array.ext'
   simp
 ·omega
theorem yN {s d n:Nat}(hd:d<n):ma s d<n\/200000<=ma s d:=by
 unfold ma
 cases Nat.blt s 100000 with
 | true=>exact .inl hd
 | false=>exact .inr (by rw [cond_false];exact Nat.le_add_left _ _)
theorem D7 {s d:Nat}(hs:100000<=s):100000<=ma s d:=by
 unfold ma
 have:Nat.blt s 100000=false:=by
  cases h:Nat.blt s 100000 with
  | false=>rfl
  | true=>have:=Nat.le_of_ble_eq_true h;omega
 rw [this,cond_false]
 omega
theorem zU (hM:Mod n V0 bf β0 st β a w V){d:Nat}(hd:d<n){t e ty:TypeId}{info:TypeInfo}{z:Value}
  (ht:P.underlying t=some (.slice e))(hi:P.info? e=some info)(hz:info.zero=some z)(hzs:z.cells.size=info.size)(hb0:info.bytes≠0)
  {s:Nat}{vs xs:List Value}{m c k xc:Nat}{base xa:OA}
  (hbase:(base=some ⟨β s,0,none⟩/\w.heap[β s]?=some (.cells vs.toArray e (0,0))/\∃b,st.boxes s=some b/\b.live)\/(base=none/\m=0/\c=0/\k≠0))
  (hx:Src w xa k info.size xs)(hb:(m+k)*info.bytes<=140737488355328)(hmc:m<=c)(hcv:c*info.size<=vs.length)(hxl:xs.length=k*info.size)(hnb:st.boxes (ma s d)=none) :
  ∃(spare:List Value)(c' g:Nat)(w':World),m+k<=c'/\c'*info.size<=(m+k)*info.size+spare.length/\((c≠0\/k≠0)->c'≠0) /\
   (Builtin.append_ #[t,t] ty #[.slice base m c,.slice xa k xc]).run P w=.ok (.slice (some ⟨g,0,none⟩) (m+k) c') w' /\
   ∀bx:aH,(bx=⟨.row (vs.take (m*info.size)++xs++spare),e⟩\/bx=⟨.aO (vs.take (m*info.size)++xs++spare),e⟩) ->
    Mod n V0 bf β0 ((st.box s ⟨.aO [],e⟩).box (ma s d) bx) (cW β (ma s d) g) a w' V:=by
 have hM1:Mod n V0 bf β0 (st.box s ⟨.aO [],e⟩) β a w V:=hM.void
 have hbx:∀bx:aH,∀l:List Value,(bx=⟨.row l,e⟩\/bx=⟨.aO l,e⟩)->bx.cs.ids=[]/\bx.obj β=.cells l.toArray e (0,0):=by
  rintro bx l (rfl|rfl)<;>exact ⟨rfl,rfl⟩
 have Ou:∀t b,(st.box s ⟨.aO [],e⟩).boxes t=some b->b.live->st.boxes t=some b/\t≠s:=by
  intro t b hb l
  rw [ah] at hb
  split at hb
  ·cases hb;exact absurd l d_
  ·rename_i h;exact ⟨hb,h⟩
 have hnone:(∃b,st.boxes s=some b/\b.live)\/True->(s≠ma s d\/st.boxes s=none)->(st.box s ⟨.aO [],e⟩).boxes (ma s d)=none\/s=ma s d:=by
  intro _ _
  by_cases h:s=ma s d
  ·exact .inr h
  ·left;rw [ah,if_neg (Ne.symm h)];exact hnb
 have grows:c<m+k->((∃b,base=some b/\(vs.take (m*info.size)).length=m*info.size/\∀j v,(vs.take (m*info.size))[j]?=some v->w.cell? (b.add j)=some v)\/base=none/\m=0/\c=0/\vs.take (m*info.size)=[]) ->
   (s=ma s d->st.boxes s=none) ->
   ∃(spare:List Value)(c' g:Nat)(w':World),m+k<=c'/\c'*info.size<=(m+k)*info.size+spare.length/\((c≠0\/k≠0)->c'≠0) /\
   (Builtin.append_ #[t,t] ty #[.slice base m c,.slice xa k xc]).run P w=.ok (.slice (some ⟨g,0,none⟩) (m+k) c') w' /\
   ∀bx:aH,(bx=⟨.row (vs.take (m*info.size)++xs++spare),e⟩\/bx=⟨.aO (vs.take (m*info.size)++xs++spare),e⟩) ->
    Mod n V0 bf β0 ((st.box s ⟨.aO [],e⟩).box (ma s d) bx) (cW β (ma s d) g) a w' V:=by
  intro hc hold hsame
  obtain ⟨c',rest,w',h1,h2,hh,ho,htp,hou,hr⟩:=wL (ty:=ty) (xc:=xc) ht hi hz hzs hold hx hc hb hb0 hmc
  refine ⟨rest,c',w.heap.size,_,h1,by rw [←h2];exact Nat.le_refl _,by omega,hr,?_⟩
  intro bx hb'
  obtain ⟨k1,k2⟩:=hbx bx _ hb'
  have hsz:w'.heap.size=w.heap.size:=by rw [hh]
  by_cases hs:s=ma s d
  ·
   have e1:(st.box s ⟨.aO [],e⟩).box (ma s d) bx=st.box (ma s d) bx:=by
    rw [←hs]
    simp only [St.box]
    congr 1
    funext t
    cases Nat.beq t s<;>rfl
   rw [e1]
   refine hM.gi (yN hd) hnb k1 ?_ ?_ (.inl hM.ext.size) ?_ ?_ ?_ ho htp hou
   ·intro t' b' hb' l he
    have:=ar (hM.boxes t' b' hb' l)
    omega
   ·intro o hb';have:=ar (hM.my _ o hb').1;omega
   ·rw [k2,←hsz];exact heap_alloc_new _ _
   ·intro i hi' _;rw [bL _ _ (by omega),hh]
   ·simp [hsz]
  ·refine hM1.gi (yN hd) (by rw [ah,if_neg (Ne.symm hs)];exact hnb) k1 ?_ ?_ (.inl hM.ext.size) ?_ ?_ ?_ ho htp hou
   ·intro t' b' hb' l he
    have:=ar (hM1.boxes t' b' hb' l)
    omega
   ·intro o hb';have:=ar (hM.my _ o hb').1;omega
   ·rw [k2,←hsz];exact heap_alloc_new _ _
   ·intro i hi' _;rw [bL _ _ (by omega),hh]
   ·simp [hsz]
 rcases hbase with ⟨rfl,hg,bs,hbs,RG⟩|⟨rfl,rfl,rfl,hk0⟩
 ·have NN:s≠ma s d:=fun e=>by rw [←e,hbs] at hnb;cases hnb
  by_cases hc:m+k<=c
  ·obtain ⟨w',hr,hh,ho,htp,hou⟩:=FX (ty:=ty) (xc:=xc) ht hi hg hx hc hcv
   have hfit:m*info.size+xs.length<=vs.length:=by
    rw [hxl,←Nat.add_mul]
    exact Nat.le_trans (Nat.mul_le_mul_right _ hc) hcv
   have hlt:=ar hg
   refine ⟨vs.drop (m*info.size+xs.length),c,β s,w',hc,by rw [List.length_drop,hxl,Nat.add_mul];omega,by omega,hr,?_⟩
   intro bx hb'
   obtain ⟨k1,k2⟩:=hbx bx _ hb'
   refine hM1.gi (yN hd) (by rw [ah,if_neg (Ne.symm NN)];exact hnb) k1 ?_ (hM.qS s bs hbs RG) ?_ ?_ ?_ (by rw [hh];simp) ho htp hou
   ·intro t' b' hb' l he
    obtain ⟨h1,h2⟩:=Ou t' b' hb' l
    exact h2 (hM.inj t' s b' bs h1 l hbs RG he)
   ·rcases hM.own s bs hbs RG with h1|h1
    ·exact .inl h1
    ·exact .inr ⟨D7 h1.1,h1.2⟩
   ·rw [hh,Array.getElem?_setIfInBounds,if_pos rfl,if_pos hlt,k2]
   ·intro i _ hne;rw [hh,Array.getElem?_setIfInBounds,if_neg (Ne.symm hne)]
  ·refine grows (by omega) (.inl ⟨⟨β s,0,none⟩,rfl,?_,?_⟩) (fun e=>absurd e NN)
   ·rw [List.length_take,Nat.min_eq_left]
    exact Nat.le_trans (Nat.mul_le_mul_right _ hmc) hcv
   ·intro j v hj
    rw [dV,cell_of_row hg]
    rw [List.getElem?_take] at hj
    split at hj
    ·simpa using hj
    ·cases hj
 ·refine grows (by omega) (.inr ⟨rfl,rfl,rfl,by simp⟩) (fun e=>by rw [e];exact hnb)
theorem sr (hM:Mod n V0 bf β0 st β a w V){K:St->View->Prop}{d:Nat}(hd:d<n){t e ty:TypeId}{info:TypeInfo}{z:Value}
  (ht:P.underlying t=some (.slice e))(hi:P.info? e=some info)(hz:info.zero=some z)(hzs:z.cells.size=info.size)(hb0:info.bytes≠0)
  {s:Nat}{vs xs:List Value}{m c k xc:Nat}{xa:OA}(hg:w.heap[β s]?=some (.cells vs.toArray e (0,0)))(hbb:∃b,st.boxes s=some b/\b.live)
  (hx:Src w xa k info.size xs)(h:zS s vs m c info.size info.bytes e d st V K k xs) :
  ∃v w' st' β',(Builtin.append_ #[t,t] ty #[.slice (some ⟨β s,0,none⟩) m c,.slice xa k xc]).run P w=.ok v w'/\Mod n V0 bf β0 st' β' (a.put (some d) v) w' V/\K st' V:=by
 obtain ⟨hb,hmc,hcv,hxl,hx1,h⟩:=h
 split at h
 ·exact h.elim
 ·rename_i hnb
  obtain ⟨spare,c',g,w',h1,h2,-,hr,Nw⟩:=zU (ty:=ty) (xc:=xc) hM hd ht hi hz hzs hb0 (.inl ⟨rfl,hg,hbb⟩) hx hb hmc hcv hxl hnb
  refine ⟨_,w',_,_,hr,(Nw _ (.inl rfl)).put (x:=.c (.kD (ma s d) 0 (m+k) c')) hd ?_ ?_,h 0 (fun _=>.bool true) spare c' h1 h2⟩
  ·simp [SV.den,C.den,aK]
  ·intro s' hs'
   simp [SV.ids,C.ids] at hs'
   subst hs'
   exact ⟨_,by rw [ah,if_pos rfl]⟩
theorem tO (hM:Mod n V0 bf β0 st β a w V){K:St->View->Prop}{d:Nat}(hd:d<n){t e ty:TypeId}{info:TypeInfo}{z:Value}
  (ht:P.underlying t=some (.slice e))(hi:P.info? e=some info)(hz:info.zero=some z)(hzs:z.cells.size=info.size)(hb0:info.bytes≠0)(hs0:info.size≠0)
  {s:Nat}{vs xs:List Value}{m c k xc:Nat}{xa:OA}(hbb:st.boxes s=some ⟨.aO vs,e⟩)
  (hx:Src w xa k info.size xs)(h:qu s vs m c info.size info.bytes e d st V K k xs) :
  ∃v w' st' β',(Builtin.append_ #[t,t] ty #[.slice (mA (β s) c) m c,.slice xa k xc]).run P w=.ok v w'/\Mod n V0 bf β0 st' β' (a.put (some d) v) w' V/\K st' V:=by
 obtain ⟨hb,hmc,hcv,hxl,hx1,h⟩:=h
 split at h
 ·exact h.elim
 ·rename_i hnb
  have fin:((mA (β s) c=some ⟨β s,0,none⟩/\w.heap[β s]?=some (.cells vs.toArray e (0,0))/\∃b,st.boxes s=some b/\b.live)\/(mA (β s) c=none/\m=0/\c=0/\k≠0))->(c≠0\/k≠0) ->
    ∃v w' st' β',(Builtin.append_ #[t,t] ty #[.slice (mA (β s) c) m c,.slice xa k xc]).run P w=.ok v w'/\Mod n V0 bf β0 st' β' (a.put (some d) v) w' V/\K st' V:=by
   intro hbase hne
   obtain ⟨spare,c',g,w',h1,h2,h3,hr,Nw⟩:=zU (ty:=ty) (xc:=xc) hM hd ht hi hz hzs hb0 hbase hx hb hmc hcv hxl hnb
   refine ⟨_,w',_,_,hr,(Nw _ (.inr rfl)).put (x:=.c (.ir (ma s d) (m+k) c')) hd ?_ ?_,h spare c' h1 h2⟩
   ·simp [SV.den,C.den,aK,mA,h3 hne]
   ·intro s' hs'
    simp [SV.ids,C.ids] at hs'
    subst hs'
    exact ⟨_,by rw [ah,if_pos rfl]⟩
  by_cases hc:c=0
  ·have hm:m=0:=by omega
   by_cases hk:k=0
   ·
    subst hc hm hk
    have hK:=h [] 0 (by omega) (by simp)
    have hx0:xs=[]:=List.length_eq_zero_iff.1 (by simpa using hxl)
    subst hx0
    have e1:vs.take (0*info.size)++[]++[]=([]:List Value):=by simp
    rw [e1] at hK
    have hM2:Mod n V0 bf β0 ((st.box s ⟨.aO [],e⟩).box (ma s d) ⟨.aO [],e⟩) β a w V:=hM.void.void
    refine ⟨.slice none 0 0,w,_,_,?_,hM2.put (x:=.c (.ir (ma s d) 0 0)) hd ?_ ?_,hK⟩
    ·have e2:mA (β s) 0=none:=rfl
     rw [e2]
     cases xa with
     | none=>exact sk ht hi none 0 0 xc (by omega)
     | some ad=>simp [Builtin.append_,ag ht,aC hi,Builtin.lenOf,Builtin.firstCells,loadCells,loadCellsFrom]
    ·simp [SV.den,C.den,mA]
    ·intro s' hs'
     simp [SV.ids,C.ids] at hs'
     subst hs'
     exact ⟨_,by rw [ah,if_pos rfl]⟩
   ·exact fin (.inr ⟨by rw [hc];rfl,hm,hc,hk⟩) (.inr hk)
  ·have hlv:aH.live ⟨.aO vs,e⟩:=dK fun e'=>by
    subst e'
    have h0:c*info.size=0:=by simpa using hcv
    rcases Nat.mul_eq_zero.1 h0 with h0|h0
    ·exact hc h0
    ·exact hs0 h0
   exact fin (.inl ⟨by simp [mA,hc],hM.row hbb hlv,_,hbb,hlv⟩) (.inl hc)
theorem su (hM:Mod n V0 bf β0 st β a w V){K:St->View->Prop}{d:Nat}(hd:d<n){t e ty:TypeId}{info:TypeInfo}{z:Value}
  (ht:P.underlying t=some (.slice e))(hi:P.info? e=some info)(hz:info.zero=some z)(hzs:z.cells.size=info.size)(hb0:info.bytes≠0)
  {vs xs:List Value}{m c k xc:Nat}{xa ba:OA}(hsl:V.sl ba vs)(hvl:vs.length=m*info.size)(hmc:m<=c)(hn0:ba.isNone=true->c=0)(hs0:info.size≠0)
  (hx:Src w xa k info.size xs)(h:zT vs m c info.size info.bytes e d st V K k xs) :
  ∃v w' st' β',(Builtin.append_ #[t,t] ty #[.slice ba m c,.slice xa k xc]).run P w=.ok v w'/\Mod n V0 bf β0 st' β' (a.put (some d) v) w' V/\K st' V:=by
 obtain ⟨hb,hlt,hxl,hx1,h⟩:=h
 have hbase:(∃b,ba=some b/\vs.length=m*info.size/\∀j v,vs[j]?=some v->w.cell? (b.add j)=some v)\/ba=none/\m=0/\c=0/\vs=[]:=by
  cases ba with
  | some b=>exact .inl ⟨b,rfl,hvl,um hM hsl⟩
  | none=>
   have hc:=hn0 rfl
   have hm:m=0:=by omega
   subst hm
   exact .inr ⟨rfl,rfl,hc,List.length_eq_zero_iff.1 (by simpa using hvl)⟩
 obtain ⟨c',rest,w',h1,h2,hh,ho,htp,hou,hr⟩:=wL (ty:=ty) (xc:=xc) (base:=ba) (olds:=vs) ht hi hz hzs hbase hx hlt hb hb0 hmc
 split at h
 ·exact h.elim
 ·rename_i hn
  have hK:=h rest c' h1 (by rw [←h2];exact Nat.le_refl _)
  have hsz:w'.heap.size=w.heap.size:=by rw [hh]
  have Wq:=Mod.gi hM (d:=d) (g:=w.heap.size) (b:=⟨.row (vs++xs++rest),e⟩) (w':=w'.alloc (.cells (vs++xs++rest).toArray e)) (.inl hd) hn rfl
   (by
    intro t' b' hb' l he
    have:=ar (hM.boxes t' b' hb' l)
    omega)
   (by intro o hb';have:=ar (hM.my _ o hb').1;omega) (.inl hM.ext.size)
   (by rw [←hsz];exact heap_alloc_new _ _)
   (by intro i hi' _;rw [bL _ _ (by omega),hh])
   (by simp [hsz]) ho htp hou
  refine ⟨_,_,_,_,hr,Wq.put (x:=.c (.kD d 0 (m+k) c')) hd ?_ ?_,hK⟩
  ·simp [SV.den,C.den,aK]
  ·intro s' hs'
   simp [SV.ids,C.ids] at hs'
   subst hs'
   exact ⟨_,by rw [ah,if_pos rfl]⟩
end Go.Eng
namespace Go.Eng
variable {P:Program} {T:cD} {n:Nat} {V0:View} {bf:Ce} {β0:Nat->Nat} {st:St} {β:Nat->Nat} {a:Act} {w:World} {V:View}
theorem qB (ws:List Value)(o n:Nat):(rowTake ws o n).length=n:=by
 unfold rowTake
 cases h:Nat.ble (o+n) ws.length with
 | true=>
  have:=Nat.le_of_ble_eq_true h
  simp only [cond_true]
  rw [List.length_take,List.length_drop];omega
 | false=>simp
theorem qA {ws:List Value}{o n:Nat}(h1:∀v∈rowTake ws o n,v.oneCell'=true){j:Nat}{v:Value}(hj:(rowTake ws o n)[j]?=some v):ws[o+j]?=some v:=by
 unfold rowTake at h1 hj
 cases h:Nat.ble (o+n) ws.length with
 | true=>
  rw [h] at hj
  simp only [cond_true] at hj
  rw [List.getElem?_take] at hj
  split at hj
  ·simpa using hj
  ·cases hj
 | false=>
  rw [h] at hj h1
  simp only [cond_false] at hj h1
  have hm:=List.mem_of_getElem? hj
  have:=h1 v hm
  rw [List.eq_of_mem_replicate hm] at this
  cases this
theorem Eo (hM:Mod n V0 bf β0 st β a w V){ei:TI}{info:TypeInfo}(e5:ei.size=info.size){s o k xc:Nat}{src:OA×Nat ⊕ List Value}
  (hsrc:(match st.boxes s with
    | some ⟨.row ws,_⟩=>some (.inr (rowTake ws o (k*ei.size)))
    | _=>match dG st.boxes s with
     | some ws=>if Nat.ble (o+k*ei.size) ws.length then some (.inr ((ws.drop o).take (k*ei.size))) else none
     | none=>none)=some src) :
  ∃xa k' JY,(SV.c (.kD s o k xc)).den β=.slice xa k' JY/\((src=.inl (xa,k'))\/∃xs,src=.inr xs/\xs.length=k'*info.size/\∃ad,xa=some ad/\((∀v∈xs,v.oneCell'=true)->∀j v,xs[j]?=some v->w.cell? (ad.add j)=some v)):=by
 split at hsrc
 ·rename_i ws ty hbx
  simp only [Option.some.injEq] at hsrc
  subst hsrc
  have hws:dG st.boxes s=some ws:=by unfold dG;rw [hbx]
  have htx:jq st.boxes s=some ty:=by unfold jq;rw [hbx]
  obtain ⟨k1,-⟩:=kI hM hws htx
  refine ⟨_,k,xc,rfl,.inr ⟨_,rfl,?_,⟨β s,o,none⟩,rfl,?_⟩⟩
  ·rw [qB,←e5]
  ·intro h1 j v hj
   rw [dV,cell_of_row k1]
   exact qA h1 hj
 ·split at hsrc
  ·rename_i ws hws
   split at hsrc
   ·rename_i hle
    have hle:=Nat.le_of_ble_eq_true hle
    simp only [Option.some.injEq] at hsrc
    subst hsrc
    obtain ⟨tx,htx⟩:=Ck hws
    obtain ⟨k1,-⟩:=kI hM hws htx
    refine ⟨_,k,xc,rfl,.inr ⟨_,rfl,?_,⟨β s,o,none⟩,rfl,?_⟩⟩
    ·rw [List.length_take,List.length_drop,←e5];omega
    ·intro _ j v hj
     rw [dV,cell_of_row k1]
     rw [List.getElem?_take] at hj
     split at hj
     ·simpa using hj
     ·cases hj
   ·cases hsrc
  ·cases hsrc
theorem Bx {xv:Value}{src:OA×Nat ⊕ List Value}{sz:Nat}(h:∃xa k' JY,xv=.slice xa k' JY/\((src=.inl (xa,k'))\/∃xs,src=.inr xs/\xs.length=k'*sz/\∃ad,xa=some ad/\((∀v∈xs,v.oneCell'=true)->∀j v,xs[j]?=some v->w.cell? (ad.add j)=some v))) :
  ∃xa k xc,xv=.slice xa k xc/\((src=.inl (xa,k))\/∃xs,src=.inr xs/\xs.length=k*sz/\((∀v∈xs,v.oneCell'=true)->(∃ad,xa=some ad/\∀j v,xs[j]?=some v->w.cell? (ad.add j)=some v)\/(xa=none/\k=0))):=by
 obtain ⟨xa,k,xc,e,h⟩:=h
 refine ⟨xa,k,xc,e,h.imp id ?_⟩
 rintro ⟨xs,e1,e2,ad,e3,e4⟩
 exact ⟨xs,e1,e2,fun h1=>.inl ⟨ad,e3,e4 h1⟩⟩
theorem Bw (hM:Mod n V0 bf β0 st β a w V){ei:TI}{info:TypeInfo}(e5:ei.size=info.size)(hz:¬ei.size=0){s k xc:Nat}{src:OA×Nat ⊕ List Value}
  (hsrc:(match st.boxes s with
    | some ⟨.aO ws,_⟩=>some (.inr (rowTakeM ws k xc ei.size))
    | _=>none)=some src) :
  ∃xa k' JY,(SV.c (.ir s k xc)).den β=.slice xa k' JY/\((src=.inl (xa,k'))\/∃xs,src=.inr xs/\xs.length=k'*info.size/\((∀v∈xs,v.oneCell'=true)->(∃ad,xa=some ad/\∀j v,xs[j]?=some v->w.cell? (ad.add j)=some v)\/(xa=none/\k'=0))):=by
 split at hsrc
 ·rename_i ws ty hbx
  simp only [Option.some.injEq] at hsrc
  subst hsrc
  refine ⟨_,k,xc,rfl,.inr ⟨_,rfl,?_,fun h1=>?_⟩⟩
  ·unfold rowTakeM
   cases Nat.ble k xc with
   | true=>rw [cond_true,qB,e5]
   | false=>rw [cond_false,List.length_replicate,e5]
  ·unfold rowTakeM at h1 ⊢
   by_cases hc:xc=0
   ·subst hc
    cases k with
    | zero=>exact .inr ⟨rfl,rfl⟩
    | succ k=>
     have hb:Nat.ble (k+1) 0=false:=rfl
     rw [hb,cond_false] at h1
     have:(Value.agg #[])∈List.replicate ((k+1)*ei.size) (Value.agg #[]):=List.mem_replicate.2 ⟨Nat.mul_ne_zero (by omega) hz,rfl⟩
     have:=h1 _ this
     cases this
   ·left
    obtain ⟨c',rfl⟩:∃c',xc=c'+1:=⟨xc-1,by omega⟩
    refine ⟨⟨β s,0,none⟩,rfl,fun j v hj=>?_⟩
    cases hb:Nat.ble k (c'+1) with
    | false=>
     rw [hb,cond_false] at h1 hj
     have hm:=List.mem_of_getElem? hj
     have:=h1 v hm
     rw [List.eq_of_mem_replicate hm] at this
     cases this
    | true=>
     rw [hb,cond_true] at h1 hj
     have hg:=qA h1 hj
     have hne:ws≠[]:=fun e=>by rw [e] at hg;simp at hg
     rw [dV,cell_of_row (hM.boxes s _ hbx (dK hne))]
     exact hg
 ·cases hsrc
theorem yY (hM:Mod n V0 bf β0 st β a w V){e:TypeId}{ei:TI}{info:TypeInfo}{z:Value}(e5:ei.size=info.size)(e6:ei.bytes=info.bytes)(e7:ei.zero=z.cells.toList.map C.ofConst)
  {b x:SV}{old:Option Nat}{ba:OA}{vs:List Value}{m c:Nat}{src:OA×Nat ⊕ List Value}{size bytes:Nat}{ty:TypeId}
  (h:bS st.boxes e ei b x=.app old ba vs m c src size bytes ty) :
  size=info.size/\bytes=info.bytes/\ty=e/\info.bytes≠0/\info.size≠0/\z.cells.size=info.size /\
  (∃base,b.den β=.slice base m c/\((∃s,old=some s/\base=some ⟨β s,0,none⟩/\w.heap[β s]?=some (.cells vs.toArray e (0,0))/\∃b,st.boxes s=some b/\b.live)\/old=none/\base=ba)) /\
  ∃xa k xc,x.den β=.slice xa k xc/\((src=.inl (xa,k))\/∃xs,src=.inr xs/\xs.length=k*info.size/\((∀v∈xs,v.oneCell'=true)->(∃ad,xa=some ad/\∀j v,xs[j]?=some v->w.cell? (ad.add j)=some v)\/(xa=none/\k=0))):=by
 unfold bS at h
 split at h
 ·cases h
 ·rename_i zs hzs
  split at h
  ·cases h
  ·rename_i hcond
   simp only [Bool.or_eq_true,beq_eq,Bool.not_eq_eq_eq_not,not_or] at hcond
   obtain ⟨⟨g1,g2⟩,g3⟩:=hcond
   have g3:ei.size=zs.length:=by
    rcases hb:Nat.beq ei.size zs.length with _|_
    ·rw [hb] at g3;exact absurd rfl g3
    ·exact beq_eq.1 hb
   obtain ⟨z1,-⟩:=dF (β:=β) e7
   obtain ⟨d1,-⟩:=eW (β:=β) hzs
   have hzs':z.cells.size=info.size:=by rw [←z1,d1];simp [←g3,e5]
   dsimp only at h
   split at h
   ·cases h
   ·rename_i src' hsrc
    have hb:(src'=src/\ei.size=size/\ei.bytes=bytes/\e=ty)/\∃base,b.den β=.slice base m c/\((∃s,old=some s/\base=some ⟨β s,0,none⟩/\w.heap[β s]?=some (.cells vs.toArray e (0,0))/\∃b,st.boxes s=some b/\b.live)\/old=none/\base=ba):=by
     split at h
     ·simp only [Q.app.injEq] at h
      obtain ⟨rfl,rfl,rfl,rfl,rfl,rfl,rfl,rfl,rfl⟩:=h
      exact ⟨⟨rfl,rfl,rfl,rfl⟩,_,rfl,.inr ⟨rfl,rfl⟩⟩
     ·rename_i s n' c'
      split at h
      ·rename_i vs' ty' hv ht
       split at h
       ·rename_i he
        obtain rfl:=beq_eq.1 he
        simp only [Q.app.injEq] at h
        obtain ⟨rfl,rfl,rfl,rfl,rfl,rfl,rfl,rfl,rfl⟩:=h
        obtain ⟨k1,k2⟩:=kI hM hv ht
        exact ⟨⟨rfl,rfl,rfl,rfl⟩,_,rfl,.inl ⟨s,rfl,rfl,k1,k2⟩⟩
       ·cases h
      ·cases h
     ·split at h
      ·split at h<;>cases h
      ·cases h
     ·cases h
    obtain ⟨⟨rfl,rfl,rfl,rfl⟩,hb⟩:=hb
    refine ⟨e5,e6,rfl,by rw [←e6];exact g1,by rw [←e5];exact g2,hzs',hb,?_⟩
    split at hsrc
    ·rename_i xa k xc
     simp only [Option.some.injEq] at hsrc
     subst hsrc
     exact ⟨xa,k,xc,rfl,.inl rfl⟩
    ·rename_i s o k xc
     exact Bx (Eo hM e5 hsrc)
    ·rename_i s k xc
     exact Bw hM e5 g2 hsrc
    ·cases hsrc
theorem vH (hM:Mod n V0 bf β0 st β a w V){e:TypeId}{ei:TI}{info:TypeInfo}{z:Value}(e5:ei.size=info.size)(e6:ei.bytes=info.bytes)(e7:ei.zero=z.cells.toList.map C.ofConst)
  {b x:SV}{s:Nat}{vs:List Value}{m c:Nat}{src:OA×Nat ⊕ List Value}{size bytes:Nat}{ty:TypeId}
  (h:bS st.boxes e ei b x=.pH s vs m c src size bytes ty) :
  size=info.size/\bytes=info.bytes/\ty=e/\info.bytes≠0/\info.size≠0/\z.cells.size=info.size /\
  (b.den β=.slice (mA (β s) c) m c/\st.boxes s=some ⟨.aO vs,e⟩) /\
  ∃xa k xc,x.den β=.slice xa k xc/\((src=.inl (xa,k))\/∃xs,src=.inr xs/\xs.length=k*info.size/\((∀v∈xs,v.oneCell'=true)->(∃ad,xa=some ad/\∀j v,xs[j]?=some v->w.cell? (ad.add j)=some v)\/(xa=none/\k=0))):=by
 unfold bS at h
 split at h
 ·cases h
 ·rename_i zs hzs
  split at h
  ·cases h
  ·rename_i hcond
   simp only [Bool.or_eq_true,beq_eq,Bool.not_eq_eq_eq_not,not_or] at hcond
   obtain ⟨⟨g1,g2⟩,g3⟩:=hcond
   have g3:ei.size=zs.length:=by
    rcases hb:Nat.beq ei.size zs.length with _|_
    ·rw [hb] at g3;exact absurd rfl g3
    ·exact beq_eq.1 hb
   obtain ⟨z1,-⟩:=dF (β:=β) e7
   obtain ⟨d1,-⟩:=eW (β:=β) hzs
   have hzs':z.cells.size=info.size:=by rw [←z1,d1];simp [←g3,e5]
   dsimp only at h
   split at h
   ·cases h
   ·rename_i src' hsrc
    have hb:(src'=src/\ei.size=size/\ei.bytes=bytes/\e=ty)/\b.den β=.slice (mA (β s) c) m c/\st.boxes s=some ⟨.aO vs,e⟩:=by
     split at h
     ·cases h
     ·split at h
      ·split at h<;>cases h
      ·cases h
     ·rename_i s' n' c'
      split at h
      ·rename_i vs' ty' hv
       split at h
       ·rename_i he
        obtain rfl:=beq_eq.1 he
        simp only [Q.pH.injEq] at h
        obtain ⟨rfl,rfl,rfl,rfl,rfl,rfl,rfl,rfl⟩:=h
        exact ⟨⟨rfl,rfl,rfl,rfl⟩,rfl,hv⟩
       ·cases h
      ·cases h
     ·cases h
    obtain ⟨⟨rfl,rfl,rfl,rfl⟩,hb⟩:=hb
    refine ⟨e5,e6,rfl,by rw [←e6];exact g1,by rw [←e5];exact g2,hzs',hb,?_⟩
    split at hsrc
    ·rename_i xa k xc
     simp only [Option.some.injEq] at hsrc
     subst hsrc
     exact ⟨xa,k,xc,rfl,.inl rfl⟩
    ·rename_i s o k xc
     exact Bx (Eo hM e5 hsrc)
    ·rename_i s k xc
     exact Bw hM e5 g2 hsrc
    ·cases hsrc
theorem Fh (hT:cD.ok P T)(hM:Mod n V0 bf β0 st β a w V){o:Oper}{K:St->View->Prop}{d:Nat}(hd:d<n){old:Option Nat}{ba:OA}{vs:List Value}{m c:Nat}{src:OA×Nat ⊕ List Value}{size bytes:Nat}{ty:TypeId}
  (h:aE T st.aR st.boxes o.op=.app old ba vs m c src size bytes ty)(hv:qW (.app old ba vs m c src size bytes ty) (some d) st V K) :
  ∃v w' st' β',(execOp a.eval o).run P w=.ok (.value v) w'/\Mod n V0 bf β0 st' β' (a.put (some d) v) w' V/\K st' V:=by
 obtain ⟨cl,hop,nT⟩:=(eU (T:=T) (ρ:=st.aR) (bx:=st.boxes) (op:=o.op)).2.2 (by rw [h];rfl)
 rw [hop] at h
 simp only [aE,nT] at h
 split at h
 ·rename_i b x t t' hargs hts
  split at h
  ·rename_i i i' hi hi'
   split at h
   ·rename_i e e' hk hk'
    split at h
    ·rename_i ei Az
     obtain ⟨Ku,d0,z0,h1,h2,h3,h4,-⟩:=aw (hT _ _ hi)
     obtain ⟨LC,d0',Yf,h1',h2',h3',h4',-⟩:=aw (hT _ _ hi')
     obtain ⟨info,de,z,e1,e2,e3,e4,e5,e6,e7⟩:=aw (hT _ _ Az)
     rw [h4] at hk
     rw [h4'] at hk'
     obtain rfl:=aN hk
     obtain rfl:=aN hk'
     obtain ⟨rfl,rfl,rfl,hb0,hs0,hzs,⟨base,hbd,hold⟩,xa,k,xc,hxd,hsrc⟩:=yY hM e5 e6 e7 h
     obtain ⟨q1,q2⟩:=eT hM _ _ hargs
     have f1:cl.argTypes=#[t,t']:=by apply Array.ext';exact hts
     have f2:cl.args.map a.eval=#[.slice base m c,.slice xa k xc]:=by
      apply Array.ext';rw [Array.toList_map,q1];simp [hbd,hxd]
     have hrun:∀{v w'},(Builtin.append_ #[t,t] o.type #[.slice base m c,.slice xa k xc]).run P w=.ok v w'->(execOp a.eval o).run P w=.ok (.value v) w':=by
      intro v w' hr
      simp only [execOp,hop,resolve,nT,pure_bind,invoke,f1,f2,builtin]
      refine dg ?_
      rw [wM h2 h2']
      exact hr
     have fin:∀{v w' st' β'},(Builtin.append_ #[t,t] o.type #[.slice base m c,.slice xa k xc]).run P w=.ok v w'->Mod n V0 bf β0 st' β' (a.put (some d) v) w' V->K st' V ->
       ∃v w' st' β',(execOp a.eval o).run P w=.ok (.value v) w'/\Mod n V0 bf β0 st' β' (a.put (some d) v) w' V/\K st' V:=fun r1 r2 r3=>⟨_,_,_,_,hrun r1,r2,r3⟩
     have JI:∀xs,V.sl xa xs->xs.length=k*info.size->(∀v∈xs,v.oneCell'=true)->Src w xa k info.size xs:=by
      intro xs hsl hxl h1
      refine ⟨hxl,h1,?_⟩
      cases xa with
      | some ad=>exact .inl ⟨ad,rfl,um hM hsl⟩
      | none=>
       refine .inr ⟨rfl,?_⟩
       have:xs=[]:=by
        cases xs with
        | nil=>rfl
        | cons y r=>obtain ⟨ad,e,-⟩:=hsl 0 y (by simp);cases e
       rw [this] at hxl
       rcases Nat.mul_eq_zero.1 hxl.symm with h|h
       ·exact h
       ·exact absurd h hs0
     rcases hold with ⟨s,rfl,rfl,hg,hbb⟩|⟨rfl,rfl⟩
     ·rcases hsrc with rfl|⟨xs,rfl,hxl,hcells⟩
      ·obtain ⟨xs,hsl,hxl,hv⟩:=hv
       obtain ⟨v,w',st',β',r1,r2,r3⟩:=sr (ty:=o.type) (xc:=xc) hM hd h2 e1 e3 hzs hb0 hg hbb (JI xs hsl hxl hv.2.2.2.2.1) hv
       exact fin r1 r2 r3
      ·have hkk:xs.length / info.size=k:=by rw [hxl];exact Nat.mul_div_cancel _ (by omega)
       simp only [qW,hkk] at hv
       obtain ⟨v,w',st',β',r1,r2,r3⟩:=sr (ty:=o.type) (xc:=xc) hM hd h2 e1 e3 hzs hb0 hg hbb ⟨hxl,hv.2.2.2.2.1,hcells hv.2.2.2.2.1⟩ hv
       exact fin r1 r2 r3
     ·obtain ⟨vs,NV,hvl,hmc,hn0,hv⟩:=hv
      rcases hsrc with rfl|⟨xs,rfl,hxl,hcells⟩
      ·obtain ⟨xs,hsl,hxl,hv1,hv2⟩:=hv
       by_cases hk0:k=0
       ·have hK:=hv1 hk0
        subst hk0
        refine fin (v:=.slice base m c) (w':=w) ?_ (hM.put (x:=.c (.v (.slice base m c))) hd rfl (fun s hs=>by cases hs)) hK
        cases xa with
        | none=>exact sk h2 e1 base m c xc hmc
        | some ad=>cases base<;>simp [Builtin.append_,ag h2,aC e1,Builtin.lenOf,Builtin.firstCells,loadCells,loadCellsFrom,storeCells,hmc]
       ·have hK:=hv2 hk0
        obtain ⟨v,w',st',β',r1,r2,r3⟩:=su (ty:=o.type) (xc:=xc) hM hd h2 e1 e3 hzs hb0 NV hvl hmc hn0 hs0 (JI xs hsl hxl hK.2.2.2.1) hK
        exact fin r1 r2 r3
      ·have hkk:xs.length / info.size=k:=by rw [hxl];exact Nat.mul_div_cancel _ (by omega)
       dsimp only at hv
       rw [hkk] at hv
       obtain ⟨v,w',st',β',r1,r2,r3⟩:=su (ty:=o.type) (xc:=xc) hM hd h2 e1 e3 hzs hb0 NV hvl hmc hn0 hs0 ⟨hxl,hv.2.2.2.1,hcells hv.2.2.2.1⟩ hv
       exact fin r1 r2 r3
    ·cases h
   ·cases h
  ·cases h
 ·cases h
theorem Da (hT:cD.ok P T)(hM:Mod n V0 bf β0 st β a w V){o:Oper}{K:St->View->Prop}{d:Nat}(hd:d<n){s:Nat}{vs:List Value}{m c:Nat}{src:OA×Nat ⊕ List Value}{size bytes:Nat}{ty:TypeId}
  (h:aE T st.aR st.boxes o.op=.pH s vs m c src size bytes ty)(hv:qW (.pH s vs m c src size bytes ty) (some d) st V K) :
  ∃v w' st' β',(execOp a.eval o).run P w=.ok (.value v) w'/\Mod n V0 bf β0 st' β' (a.put (some d) v) w' V/\K st' V:=by
 obtain ⟨cl,hop,nT⟩:=(eU (T:=T) (ρ:=st.aR) (bx:=st.boxes) (op:=o.op)).2.2 (by rw [h];rfl)
 rw [hop] at h
 simp only [aE,nT] at h
 split at h
 ·rename_i b x t t' hargs hts
  split at h
  ·rename_i i i' hi hi'
   split at h
   ·rename_i e e' hk hk'
    split at h
    ·rename_i ei Az
     obtain ⟨Ku,d0,z0,h1,h2,h3,h4,-⟩:=aw (hT _ _ hi)
     obtain ⟨LC,d0',Yf,h1',h2',h3',h4',-⟩:=aw (hT _ _ hi')
     obtain ⟨info,de,z,e1,e2,e3,e4,e5,e6,e7⟩:=aw (hT _ _ Az)
     rw [h4] at hk
     rw [h4'] at hk'
     obtain rfl:=aN hk
     obtain rfl:=aN hk'
     obtain ⟨rfl,rfl,rfl,hb0,hs0,hzs,⟨hbd,hbb⟩,xa,k,xc,hxd,hsrc⟩:=vH hM e5 e6 e7 h
     obtain ⟨q1,q2⟩:=eT hM _ _ hargs
     have f1:cl.argTypes=#[t,t']:=by apply Array.ext';exact hts
     have f2:cl.args.map a.eval=#[.slice (mA (β s) c) m c,.slice xa k xc]:=by
      apply Array.ext';rw [Array.toList_map,q1];simp [hbd,hxd]
     have hrun:∀{v w'},(Builtin.append_ #[t,t] o.type #[.slice (mA (β s) c) m c,.slice xa k xc]).run P w=.ok v w'->(execOp a.eval o).run P w=.ok (.value v) w':=by
      intro v w' hr
      simp only [execOp,hop,resolve,nT,pure_bind,invoke,f1,f2,builtin]
      refine dg ?_
      rw [wM h2 h2']
      exact hr
     have fin:∀{v w' st' β'},(Builtin.append_ #[t,t] o.type #[.slice (mA (β s) c) m c,.slice xa k xc]).run P w=.ok v w'->Mod n V0 bf β0 st' β' (a.put (some d) v) w' V->K st' V ->
       ∃v w' st' β',(execOp a.eval o).run P w=.ok (.value v) w'/\Mod n V0 bf β0 st' β' (a.put (some d) v) w' V/\K st' V:=fun r1 r2 r3=>⟨_,_,_,_,hrun r1,r2,r3⟩
     have JI:∀xs,V.sl xa xs->xs.length=k*info.size->(∀v∈xs,v.oneCell'=true)->Src w xa k info.size xs:=by
      intro xs hsl hxl h1
      refine ⟨hxl,h1,?_⟩
      cases xa with
      | some ad=>exact .inl ⟨ad,rfl,um hM hsl⟩
      | none=>
       refine .inr ⟨rfl,?_⟩
       have:xs=[]:=by
        cases xs with
        | nil=>rfl
        | cons y r=>obtain ⟨ad,e,-⟩:=hsl 0 y (by simp);cases e
       rw [this] at hxl
       rcases Nat.mul_eq_zero.1 hxl.symm with h|h
       ·exact h
       ·exact absurd h hs0
     rcases hsrc with rfl|⟨xs,rfl,hxl,hcells⟩
     ·obtain ⟨xs,hsl,hxl,hv⟩:=hv
      obtain ⟨v,w',st',β',r1,r2,r3⟩:=tO (ty:=o.type) (xc:=xc) hM hd h2 e1 e3 hzs hb0 hs0 hbb (JI xs hsl hxl hv.2.2.2.2.1) hv
      exact fin r1 r2 r3
     ·have hkk:xs.length / info.size=k:=by rw [hxl];exact Nat.mul_div_cancel _ (by omega)
      simp only [qW,hkk] at hv
      obtain ⟨v,w',st',β',r1,r2,r3⟩:=tO (ty:=o.type) (xc:=xc) hM hd h2 e1 e3 hzs hb0 hs0 hbb ⟨hxl,hv.2.2.2.2.1,hcells hv.2.2.2.2.1⟩ hv
      exact fin r1 r2 r3
    ·cases h
   ·cases h
  ·cases h
 ·cases h
theorem Bj (hT:cD.ok P T)(hM:Mod n V0 bf β0 st β a w V){o:Oper}{K:St->View->Prop}{next:Act->World->Prop}{Q:Exit->Act->World->Prop}
  (hd:∀d,o.dst=some d->d<n)(hv:qW (aE T st.aR st.boxes o.op) o.dst st V K)
  (hK:∀st' β' a' w' V',Mod n V0 bf β0 st' β' a' w' V'->K st' V'->next a' w'):o.wp P a w next Q:=by
 unfold Oper.wp
 generalize hq:aE T st.aR st.boxes o.op=q at hv
 cases q with
 | fail=>exact hv.elim
 | ret sc x=>
  obtain ⟨h1,h2⟩:=(cT sc _).1 hv
  obtain ⟨r1,r2⟩:=Fj hT hM hq h1
  rw [r1]
  exact hK _ _ _ _ _ (hM.C5 hd rfl r2) h2
 | new sc b x=>
  simp only [qW] at hv
  cases hdst:o.dst with
  | none=>rw [hdst] at hv;exact hv.elim
  | some d=>
   rw [hdst] at hv
   dsimp only at hv
   split at hv
   ·rename_i hn
    obtain ⟨h1,h2⟩:=(cT sc _).1 hv
    obtain ⟨v,r1,r2,r3⟩:=Fi hT hM hq h1
    rw [r1]
    have hM':=hM.new (hd d hdst) hn r3
    have:=hM'.put (x:=x d) (v:=v) (hd d hdst) (r2 d).1 (by
     intro s hs
     rw [(r2 d).2] at hs
     simp at hs
     subst hs
     exact ⟨b,by rw [ah,if_pos rfl]⟩)
    simp only [Oper.upon_value,hdst]
    exact hK _ _ _ _ _ this h2
   ·exact hv.elim
 | qV sc s b=>
  simp only [qW] at hv
  cases hdst:o.dst with
  | some d=>rw [hdst] at hv;exact hv.elim
  | none=>
   rw [hdst] at hv
   dsimp only at hv
   obtain ⟨h1,h2⟩:=(cT sc _).1 hv
   obtain ⟨nx,w',r1,rx,r2⟩:=Fk hT hM hq h1
   rw [r1]
   rcases rx with rfl|⟨v,rfl⟩
   ·simp only [Oper.upon_skip,hdst]
    exact hK _ _ _ _ _ r2 h2
   ·simp only [Oper.upon_value,hdst]
    exact hK _ _ _ _ _ r2 h2
 | rd p sh=>
  obtain ⟨x,h1,h2,h3⟩:=rW.dI sh hv
  have h2':(∃c,x=.c c/\∃s',sh=.one s')\/∃cs l,x=.agg cs/\sh=.agg l/\cs.length=l.length:=h2
  obtain ⟨r1,r2⟩:=HC hT hM hq h1 h2' h3
  rw [r1]
  exact hK _ _ _ _ _ (hM.C5 hd rfl (bG h1)) r2
 | mj vs of size sh=>
  obtain ⟨x,h1,h2,h3,h4⟩:=rW.dI sh hv
  have r1:=Bi hT hM hq h1 h2 h3
  rw [r1]
  exact hK _ _ _ _ _ (hM.C5 hd rfl (bG h1)) h4
 | pH s vs m c src size bytes ty=>
  cases hdst:o.dst with
  | none=>rw [hdst] at hv;exact hv.elim
  | some d=>
   rw [hdst] at hv
   obtain ⟨v,w',st',β',r1,r2,r3⟩:=Da hT hM (hd d hdst) hq hv
   rw [r1]
   simp only [Oper.upon_value,hdst]
   exact hK _ _ _ _ _ r2 r3
 | app old ba vs m c src size bytes ty=>
  cases hdst:o.dst with
  | none=>rw [hdst] at hv;exact hv.elim
  | some d=>
   rw [hdst] at hv
   obtain ⟨v,w',st',β',r1,r2,r3⟩:=Fh hT hM (hd d hdst) hq hv
   rw [r1]
   simp only [Oper.upon_value,hdst]
   exact hK _ _ _ _ _ r2 r3
end Go.Eng
