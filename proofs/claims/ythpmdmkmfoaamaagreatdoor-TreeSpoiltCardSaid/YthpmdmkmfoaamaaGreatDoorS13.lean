import Derived.Test.YthpmdmkmfoaamaaGreatDoorS12
import Derived.WalkKit
import Derived.LaidEql
import Derived.Stop.Asserts
import Derived.RowKitTokens
import Derived.Test.YthpmdmkmfoaamaaGreatDoorS7
import Derived.Test.YthpmdmkmfoaamaaGreatDoorS8
import Derived.Test.YthpmdmkmfoaamaaGreatDoorS5
import Derived.Test.YthpmdmkmfoaamaaGreatDoorS11
set_option linter.unusedVariables false
open Go.IntKind (i64 u64 u32)
namespace Go.Proofs.Tryz
open Go.br Go.dS
theorem row_one {α:Type}{sz:Nat}{R:View->Value->α->Prop}{V:View}{xs:List Value}{a:α}(hx:xs.length=sz)(ha:R V (.agg xs.toArray) a):Row sz R V xs [a]:=by
 refine ⟨fun i hi=>?_⟩
 obtain rfl:i=0:=by simpa using hi
 exact ⟨xs,hx,ha,fun j x hj=>by rw [Nat.zero_mul,Nat.zero_add];exact hj⟩
theorem zA {α:Type}{sz:Nat}{R:View->Value->α->Prop}{V:View}{p:OA}{n:Nat}{ls:List α}(h:wD sz R V p n ls)(hs:0<sz):∃xs:List Value,V.sl p xs/\xs.length=ls.length*sz/\Row sz R V xs ls:=by
 have step:∀k,k<=ls.length->∃xs:List Value,V.sl p xs/\xs.length=k*sz/\Row sz R V xs (ls.take k):=by
  intro k
  induction k with
  | zero=>exact fun _=>⟨[],fun i v hv=>by simp at hv,by simp,by rw [List.take_zero];exact Row.nil⟩
  | succ k ih=>
   intro hk
   obtain ⟨xs,x1,x2,x3⟩:=ih (by omega)
   obtain ⟨ad,ha,ys,y1,y2,y3⟩:=h.at_ k (by omega)
   have hl:(ls.take k).length=k:=by rw [List.length_take];omega
   refine ⟨xs++ys,fun i v hv=>?_,by rw [List.length_append,x2,y1,Nat.succ_mul],?_⟩
   ·by_cases c:i<xs.length
    ·rw [List.getElem?_append_left c] at hv;exact x1 i v hv
    ·rw [List.getElem?_append_right (by omega)] at hv
     cases p with
     | none=>cases ha
     | some a=>
      obtain rfl:=Option.some.inj (show some (a.add (k*sz))=some ad from ha)
      have:=y3 _ v hv
      rw [uz,x2] at this
      rw [show k*sz+(i-k*sz)=i by omega] at this
      exact ⟨a,rfl,this⟩
   ·have:=x3.snoc (sp:=[]) y1 y2 hs
    rw [hl,List.append_nil,List.take_of_length_le (by omega)] at this
    rw [List.take_add_one,List.getElem?_eq_getElem (by omega)]
    exact this
 obtain ⟨xs,x1,x2,x3⟩:=step ls.length (Nat.le_refl _)
 rw [List.take_length] at x3
 exact ⟨xs,x1,x2,x3⟩
structure Rn where
 b1:Bool
 xs:List Nat
 b2:Bool
 ys:List Nat
 b3:Bool
 zs:List Nat
 left:Int
 right:Int
def sJ (V:View)(v:Value)(r:Rn):Prop:=∃p1 n1 c1 p2 n2 c2 p3 n3 c3,v=.agg #[.bool r.b1,.slice p1 n1 c1,.bool r.b2,.slice p2 n2 c2,.bool r.b3,.slice p3 n3 c3,.int .i64 r.left,.int .i64 r.right] /\
 RD V p1 n1 c1 r.xs/\RD V p2 n2 c2 r.ys/\RD V p3 n3 c3 r.zs
theorem sJ.le {V V':View}{v:Value}{r:Rn}(h:sJ V v r)(l:V.Le V'):sJ V' v r:=by
 obtain ⟨_,_,_,_,_,_,_,_,_,e,h1,h2,h3⟩:=h
 exact ⟨_,_,_,_,_,_,_,_,_,e,h1.le l,h2.le l,h3.le l⟩
def Rn.short (r:Rn):Prop:=r.xs.length<=3/\r.ys.length<=3/\r.zs.length<=3
def Rn.nd (r:Rn):Nd:=⟨if fH r.b1 r.xs r.b2 r.ys r.b3 r.zs then yB r.b1 r.xs r.b2 r.ys r.b3 r.zs else (0,0,0),r.left,r.right⟩
theorem jo {b:Bool}{xs:List Nat}(hd:bD xs)(h:xs.length<=3):(au b xs).natAbs<2^96:=by
 have h1:=dp hd
 have h2:4294967296^xs.length<=4294967296^3:=Nat.pow_le_pow_right (by omega) (by omega)
 have h4:4294967296^3=2^96:=by decide
 have h3:(au b xs).natAbs=val xs:=by unfold au;split<;>simp
 omega
theorem C6 {a b:Nat}(h:a<=b):2^a<=2^b:=Nat.pow_le_pow_right (by omega) h
theorem Rn.bd {V:View}{v:Value}{r:Rn}(h:sJ V v r)(hs:r.short):Bd r.nd.ln:=by
 obtain ⟨_,_,_,_,_,_,_,_,_,e,h1,h2,h3⟩:=h
 have le:=C6 (a:=96) (b:=1000) (by omega)
 have a1:=jo (b:=r.b1) h1.cD hs.1
 have a2:=jo (b:=r.b2) h2.cD hs.2.1
 have a3:=jo (b:=r.b3) h3.cD hs.2.2
 have z:=Nat.two_pow_pos 1000
 unfold Rn.nd Bd
 dsimp only
 split
 ·unfold yB;dsimp only;exact ⟨Nat.lt_of_lt_of_le a1 le,Nat.lt_of_lt_of_le a2 le,Nat.lt_of_lt_of_le a3 le⟩
 ·exact ⟨z,z,z⟩
theorem G_ {V:View}{b1:Bool}{p1:OA}{n1 c1:Nat}{xs:List Nat}{b2:Bool}{p2:OA}{n2 c2:Nat}{ys:List Nat}{b3:Bool}{p3:OA}{n3 c3:Nat}{zs:List Nat}(ho:fH b1 xs b2 ys b3 zs=true)(h1:RD V p1 n1 c1 xs)(h2:RD V p2 n2 c2 ys)(h3:RD V p3 n3 c3 zs) :
  RL V (.agg #[.bool b1,.slice p1 n1 c1,.bool b2,.slice p2 n2 c2,.bool b3,.slice p3 n3 c3]) (yB b1 xs b2 ys b3 zs).1 (yB b1 xs b2 ys b3 zs).2.1 (yB b1 xs b2 ys b3 zs).2.2:=by
 rw [iR] at ho
 simp only [Bool.and_eq_true] at ho
 obtain ⟨⟨⟨o1,o2⟩,o3⟩,-⟩:=ho
 obtain ⟨e1,f1⟩:=tw o1
 obtain ⟨e2,f2⟩:=tw o2
 obtain ⟨e3,f3⟩:=tw o3
 unfold yB
 dsimp only
 refine ⟨p1,n1,c1,p2,n2,c2,p3,n3,c3,?_,by rw [←f1];exact h1,by rw [←f2];exact h2,by rw [←f3];exact h3⟩
 rw [←e1,←e2,←e3]
theorem Rn.Ns {V:View}{v:Value}{r:Rn}(h:sJ V v r)(hs:r.short){c:Fin 8->Value}(hv:v=.agg #[c 0,c 1,c 2,c 3,c 4,c 5,c 6,c 7]):Aa V (.agg #[c 0,c 1,c 2,c 3,c 4,c 5]) r.nd.ln/\c 6=.int .i64 r.left/\c 7=.int .i64 r.right:=by
 obtain ⟨p1,n1,c1,p2,n2,c2,p3,n3,c3,e,h1,h2,h3⟩:=h
 have a1:=jo (b:=r.b1) h1.cD hs.1
 have a2:=jo (b:=r.b2) h2.cD hs.2.1
 have a3:=jo (b:=r.b3) h3.cD hs.2.2
 rw [hv] at e
 have e:=congrArg Array.toList (Value.agg.inj e)
 simp only [List.cons.injEq,and_true] at e
 obtain ⟨e0,e1,e2,e3,e4,e5,e6,e7⟩:=e
 refine ⟨?_,e6,e7⟩
 rw [e0,e1,e2,e3,e4,e5]
 unfold Rn.nd
 dsimp only
 cases ho:fH r.b1 r.xs r.b2 r.ys r.b3 r.zs
 ·rw [if_neg (by decide)]
  refine .inr ⟨by decide,_,_,_,_,_,_,_,_,_,_,_,_,_,_,_,rfl,h1,h2,h3,ho,⟨by have:=hs.1;omega,by have:=hs.2.1;omega,by have:=hs.2.2;omega⟩,(jY a1 (by omega)).mono (by omega),(jY a2 (by omega)).mono (by omega),(jY a3 (by omega)).mono (by omega)⟩
 ·rw [if_pos rfl]
  exact .inl (G_ ho h1 h2 h3)
theorem NS.EO {V:View}{p:OA}{n c:Nat}{rs:List Rn}(h:wD 8 sJ V p n rs)(hs:∀r∈rs,r.short)(hc:n<=c)(hn:p.isNone=true->c=0):NS V p n c (rs.map Rn.nd)/\∀x∈rs.map Rn.nd,Bd x.ln:=by
 have hl:=h.len
 constructor
 ·obtain ⟨vs,v1,-,v3⟩:=zA h (by decide)
  refine ⟨by rw [List.length_map];exact hl,hc,⟨vs,v1,fun i d hd=>?_⟩,hn⟩
  rw [List.getElem?_map] at hd
  cases hr:rs[i]? with
  | none=>rw [hr] at hd;cases hd
  | some r=>
   rw [hr] at hd
   cases hd
   obtain ⟨hi,e⟩:=List.getElem?_eq_some_iff.1 hr
   obtain ⟨xs,x1,x2,x3⟩:=v3.at_ i hi
   rw [e] at x2
   have x20:=x2
   obtain ⟨p1,n1,c1,p2,n2,c2,p3,n3,c3,ex,-⟩:=x2
   have ex:=congrArg Array.toList (Value.agg.inj ex)
   dsimp only at ex
   subst ex
   have hq:=(Rn.Ns x20 (hs r (List.mem_of_getElem? hr)) (c:=fun k=>([.bool r.b1,.slice p1 n1 c1,.bool r.b2,.slice p2 n2 c2,.bool r.b3,.slice p3 n3 c3,.int .i64 r.left,.int .i64 r.right]:List Value).getD k.1 .nilIface) rfl).1
   exact ⟨_,_,_,_,_,_,_,_,_,_,_,_,fun j v hj=>x3 j v hj,hq⟩
 ·intro x hx
  obtain ⟨r,hr,rfl⟩:=List.mem_map.1 hx
  obtain ⟨i,hi,rfl⟩:=List.mem_iff_getElem.1 hr
  obtain ⟨ad,-,xs,-,h2,-⟩:=h.at_ i hi
  exact Rn.bd h2 (hs _ hr)
theorem Ha {V:View}{p:OA}{n:Nat}{rs:List Rn}(h:wD 8 sJ V p n rs){i:Nat}(hi:i<rs.length) :
  p.isSome=true/\∃p1 n1 c1 p2 n2 c2 p3 n3 c3 a,af p (i*8)=some a/\V.at (a.add 0) (.bool rs[i].b1)/\V.at (a.add 1) (.slice p1 n1 c1)/\V.at (a.add 2) (.bool rs[i].b2)/\V.at (a.add 3) (.slice p2 n2 c2)/\V.at (a.add 4) (.bool rs[i].b3)/\V.at (a.add 5) (.slice p3 n3 c3)/\V.at (a.add 6) (.int .i64 rs[i].left)/\V.at (a.add 7) (.int .i64 rs[i].right) /\
   n1=rs[i].xs.length/\n2=rs[i].ys.length/\n3=rs[i].zs.length:=by
 obtain ⟨ad,h0,xs,h1,h2,h3⟩:=h.at_ i hi
 obtain ⟨p1,n1,c1,p2,n2,c2,p3,n3,c3,e,d1,d2,d3⟩:=h2
 have e:=congrArg Array.toList (Value.agg.inj e)
 dsimp only at e
 subst e
 refine ⟨?_,p1,n1,c1,p2,n2,c2,p3,n3,c3,ad,h0,h3 0 _ rfl,h3 1 _ rfl,h3 2 _ rfl,h3 3 _ rfl,h3 4 _ rfl,h3 5 _ rfl,h3 6 _ rfl,h3 7 _ rfl,d1.len,d2.len,d3.len⟩
 cases p with
 | none=>cases h0
 | some a=>rfl
end Go.Proofs.Tryz
namespace Go.Proofs.Tryz
open Go.br
section
open Go.RowKit Go.Extern.Stop Go.Stop Go.Extern
theorem zk (v:Value)(w:World):(Extern.ReflectliteType.typeOf #[.iface 315 v]).run prog w=.ok (.iface 198 (.agg #[.pointer (some ⟨3,315,none⟩)])) w:=by kernel_rfl
theorem qH (w : World) : ((Extern.ReflectliteType.method fun t => do Extern.Rtype.noPackHeld "Comparable" t; (fun a => Value.bool a.comparable) <$> typeInfo t) #[.agg #[.pointer (some ⟨3, 315, none⟩)]]).run prog w = .ok (.bool true) w := by kernel_rfl
theorem CA:(prog.info? 315).map (·.comparable)=some true:=by kernel_rfl
theorem CC:(prog.info? 339).map (·.size)=some 1:=by kernel_rfl
theorem jx (v : Value)(w : World) : (Go.method 451 198 v "Comparable").run prog w = .ok (274, v) w := by kernel_rfl
theorem CB (a:Addr)(w:World) :
  Calls prog 31 #[.iface 315 (.pointer (some a)),.iface 315 (.pointer (some a))] w fun e w'=>e=.returned (.bool true)/\w'=w:=by
 obtain ⟨i,hi,hcmp⟩:=Option.map_eq_some_iff.1 CA
 obtain ⟨j,hj,hjs⟩:=Option.map_eq_some_iff.1 CC
 have h8:=@run_callFunc_extern prog 84 _ Extern.ReflectliteType.typeOf func84 (by kernel_rfl) (by kernel_rfl) (by kernel_rfl) (by kernel_rfl)
 have h32 := @run_callFunc_extern prog 274 _ (Extern.ReflectliteType.method fun t => do Extern.Rtype.noPackHeld "Comparable" t; pure (.bool (← typeInfo t).comparable)) func274 (by kernel_rfl) (by kernel_rfl) (by kernel_rfl) (by kernel_rfl)
 have tT:=zk
 have cT:=qH
 have mR:=jx
 have heq:=run_eql_iface_ptr_same (P:=prog) w a underlying37 underlying315 hi hcmp hj
 go_enter func31,ntmps31
 go_wp2
 refine wp_loop_rounds 1 ?_
 rw [rounds_succ]
 go_wp2
 go_ret
 exact ⟨rfl,rfl⟩
end
theorem wL {f:FuncId}{args:Array Value}{V:View}{v:Value}(hc:fg prog f)(h:Calls prog f args V.w fun e w'=>e=.returned v/\w'=V.w):ab prog f args V fun r _=>r=v:=
 ⟨hc,h.mono fun e w' ⟨h1,h2⟩=>by subst h2;exact ⟨v,h1,eR.refl _ _,rfl⟩⟩
theorem dX {V:View}{y:Value}(h:D9 y):ab prog 31 #[y,y] V fun r _=>r=.bool true:=by
 obtain ⟨a,rfl⟩:=h
 exact wL ⟨f31,func31,rfl,by kernel_rfl⟩ (CB a V.w)
end Go.Proofs.Tryz
namespace Go.Proofs.Tryz
open Go.br Go.dS
theorem dW {V:View}{l:List Nd}(hb:∀x∈l,Bd x.ln){v:Value}{root:Int}(h:AT V v root l) :
  ab prog 45 #[v] V fun r V'=>∃q,r=.tuple #[.pointer q,.bool (dz l root).isSome]/\∀t,dz l root=some t->RT V' q t:=by
 obtain ⟨p,n,c,rfl,h⟩:=h
 refine (AE hb root h).mono ?_
 rintro r V' _ ⟨h1,h2⟩
 cases e:dz l root with
 | none=>obtain ⟨q,rfl⟩:=h1 e;exact ⟨q,rfl,fun t ht=>by cases ht⟩
 | some t=>obtain ⟨q,rfl,hq⟩:=h2 t e;exact ⟨q,rfl,fun t' ht=>by cases ht;exact hq⟩
theorem dI {V:View}{l:List Nd}(hb:∀x∈l,Bd x.ln){v:Value}{root:Int}(h:AT V v root l) :
  ab prog 37 #[v] V fun r V'=>r=.bool (dz l root).isSome:=by
 have h0:=h
 obtain ⟨p,n,c,rfl,-⟩:=h
 refine rm root p n c V _ fun V1 l1=>(dW hb (h0.le l1)).mono ?_
 rintro r V2 l2 ⟨q,rfl,-⟩
 exact ⟨_,_,rfl,fun V3 l3=>rfl⟩
theorem mu {V:View}(code:Int){y:Value}(hy:mT V 0 y) :
  ab prog 87 #[.int .i64 code] V fun r V'=>∃v e,r=.tuple #[v,e]/\(if code=-2\/code=-1 then v=.agg #[.int .i64 code,.slice none 0 0]/\e=.nilIface else v=.agg #[.int .i64 0,.slice none 0 0]/\e=y):=by
 refine uf code V _ ⟨fun h1=>⟨fun h2=>⟨y,⟨_,rfl,hy⟩,fun V1 l1=>⟨_,_,rfl,?_⟩⟩,fun h2 V2 l2=>⟨_,_,rfl,?_⟩⟩,fun h1 V3 l3=>⟨_,_,rfl,?_⟩⟩
 ·have h1:¬code=-2:=by simpa using h1
  have h2:¬code=-1:=by simpa using h2
  rw [if_neg (by omega)];exact ⟨rfl,rfl⟩
 ·have h2:code=-1:=by simpa using h2
  rw [if_pos (by omega)];exact ⟨rfl,rfl⟩
 ·have h1:code=-2:=by simpa using h1
  rw [if_pos (by omega)];exact ⟨rfl,rfl⟩
def iQ (x:L3)(a b:Option Tr):Option Tr:=
 match a,b with
 | some a,some b=>if fF x=true then some (.node x a b) else none
 | _,_=>none
theorem uP {V:View}{u v w:Value}{x:L3}{r1 r2:Int}{l1 l2:List Nd}(hx:RL V u x.1 x.2.1 x.2.2)(hbx:Bd x)(h1:AT V v r1 l1)(h2:AT V w r2 l2)(hb1:∀x∈l1,Bd x.ln)(hb2:∀x∈l2,Bd x.ln)
  {y z:Value}(hy:mT V 0 y)(hz:mT V 1 z) :
  ab prog 88 #[u,v,w] V fun r V'=>∃o e,r=.tuple #[o,e]/\(iQ x (dz l1 r1) (dz l2 r2)=none->o=.agg #[.int .i64 0,.slice none 0 0]/\e=y) /\
   (∀t,iQ x (dz l1 r1) (dz l2 r2)=some t->if 65536<t.size then o=.agg #[.int .i64 0,.slice none 0 0]/\e=z else AT V' o (rt 0 t) (wr 0 t)/\e=.nilIface):=by
 have hx0:=hx
 have h10:=h1
 have h20:=h2
 obtain ⟨p1,n1,c1,p2,n2,c2,p3,n3,c3,rfl,-⟩:=hx
 obtain ⟨q1,m1,d1,rfl,-⟩:=h1
 obtain ⟨q2,m2,d2,rfl,-⟩:=h2
 refine ue _ p1 n1 c1 _ p2 n2 c2 _ p3 n3 c3 r1 q1 m1 d1 r2 q2 m2 d2 V _ fun V1 k1=>(mo (hx0.le k1) hbx).mono ?_
 rintro r V2 k2 ⟨ww,rfl,⟨x1,x2,x3,y1,y2,y3,z1,z2,z3,rfl⟩,hw⟩
 have K0:=k1.trans k2
 refine ⟨_,_,_,_,_,_,_,_,_,_,rfl,fun V3 k3=>(dW hb1 (h10.le (K0.trans k3))).mono ?_⟩
 rintro r V4 k4 ⟨a,rfl,ha⟩
 have K1:=K0.trans (k3.trans k4)
 refine ⟨_,_,rfl,fun V5 k5=>(dW hb2 (h20.le (K1.trans k5))).mono ?_⟩
 rintro r V6 k6 ⟨b,rfl,hb⟩
 have HJ:=K1.trans (k5.trans k6)
 have fin:∀V7:View,iQ x (dz l1 r1) (dz l2 r2)=none->∃o e,Value.tuple #[.agg #[.int .i64 0,.slice none 0 0],y]=.tuple #[o,e]/\(iQ x (dz l1 r1) (dz l2 r2)=none->o=.agg #[.int .i64 0,.slice none 0 0]/\e=y) /\
   (∀t,iQ x (dz l1 r1) (dz l2 r2)=some t->if 65536<t.size then o=.agg #[.int .i64 0,.slice none 0 0]/\e=z else AT V7 o (rt 0 t) (wr 0 t)/\e=.nilIface):=by
  intro V7 h
  exact ⟨_,_,rfl,fun _=>⟨rfl,rfl⟩,fun t ht=>by rw [h] at ht;cases ht⟩
 refine ⟨_,_,rfl,fun g1=>⟨y,⟨_,rfl,hy.le HJ⟩,fun V7 k7=>fin V7 ?_⟩,fun g1=>⟨fun g2=>⟨y,⟨_,rfl,hy.le HJ⟩,fun V8 k8=>fin V8 ?_⟩,fun g2=>⟨fun g3=>⟨y,⟨_,rfl,hy.le HJ⟩,fun V9 k9=>fin V9 ?_⟩,fun g3 iC k10=>?_⟩⟩⟩
 ·have g1:fF x=false:=by simpa using g1
  unfold iQ
  split
  ·rw [g1];rfl
  ·rfl
 ·have g2:dz l1 r1=none:=by simpa using g2
  unfold iQ;rw [g2]
 ·have g3:dz l2 r2=none:=by simpa using g3
  unfold iQ;rw [g3];split<;>first|rfl|(rename_i h;cases h)
 ·have g1:fF x=true:=by simpa using g1
  have g2:(dz l1 r1).isSome=true:=by simpa using g2
  have g3:(dz l2 r2).isSome=true:=by simpa using g3
  obtain ⟨s,hs⟩:=Option.isSome_iff_exists.1 g2
  obtain ⟨t,ht⟩:=Option.isSome_iff_exists.1 g3
  have ls:V2.Le iC:=k3.trans (k4.trans (k5.trans (k6.trans k10)))
  refine (rM ((hw g1).le ls) ((ha s hs).le (k5.trans (k6.trans k10))) ((hb t ht).le k10)).mono ?_
  have hj:iQ x (dz l1 r1) (dz l2 r2)=some (.node x s t):=by unfold iQ;rw [hs,ht,g1];rfl
  rintro r mf k11 ⟨p,rfl,hp⟩
  have FR:=jr hb1 hs
  have FT:=jr hb2 ht
  have ss:=pt hs
  have st:=pt ht
  refine ⟨p,rfl,fun mg k12=>(qt (hp.le k12) ⟨hbx,FR,FT⟩ (by simp only [Tr.size];omega) (hz.le (HJ.trans (k10.trans (k11.trans k12))))).mono ?_⟩
  rintro r nW k13 ⟨o,e,rfl,ho⟩
  rw [hj]
  by_cases hbig:65536<(Tr.node x s t).size
  ·rw [if_pos hbig] at ho
   obtain ⟨rfl,rfl⟩:=ho
   refine ⟨_,_,_,_,_,rfl,fun mU k14=>⟨_,_,rfl,(fun h=>by cases h),fun u hu=>?_⟩⟩
   cases hu
   rw [if_pos hbig];exact ⟨rfl,rfl⟩
  ·rw [if_neg hbig] at ho
   obtain ⟨ho,rfl⟩:=ho
   have ho0:=ho
   obtain ⟨q,n,c,rfl,-⟩:=ho
   refine ⟨_,_,_,_,_,rfl,fun mU k14=>⟨_,_,rfl,(fun h=>by cases h),fun u hu=>?_⟩⟩
   cases hu
   rw [if_neg hbig];exact ⟨ho0.le k14,rfl⟩
theorem mw {V:View}{v w:Value}{r1 r2:Int}{l1 l2:List Nd}(h1:AT V v r1 l1)(h2:AT V w r2 l2)(hb1:∀x∈l1,Bd x.ln)(hb2:∀x∈l2,Bd x.ln) :
  ab prog 39 #[v,w] V fun r V'=>r=.bool (match dz l1 r1,dz l2 r2 with|some a,some b=>decide (a=b)|_,_=>false):=by
 have h10:=h1
 have h20:=h2
 obtain ⟨q1,m1,d1,rfl,-⟩:=h1
 obtain ⟨q2,m2,d2,rfl,-⟩:=h2
 refine ug r1 q1 m1 d1 r2 q2 m2 d2 V _ fun V1 k1=>(dW hb1 (h10.le k1)).mono ?_
 rintro r V2 k2 ⟨a,rfl,ha⟩
 refine ⟨_,_,rfl,fun V3 k3=>(dW hb2 (h20.le (k1.trans (k2.trans k3)))).mono ?_⟩
 rintro r V4 k4 ⟨b,rfl,hb⟩
 refine ⟨_,_,rfl,fun g1=>⟨fun g2 V5 k5=>?_,fun g2 V8 k8=>?_⟩,fun g1 V9 k9=>?_⟩
 ·obtain ⟨s,hs⟩:=Option.isSome_iff_exists.1 g1
  obtain ⟨t,ht⟩:=Option.isSome_iff_exists.1 g2
  refine (wR s t ((ha s hs).le (k3.trans (k4.trans k5))) ((hb t ht).le k5) (jr hb1 hs) (jr hb2 ht)).mono ?_
  rintro r V6 k6 rfl
  refine ⟨_,rfl,fun V7 k7=>?_⟩
  rw [hs,ht]
 ·have g2:dz l2 r2=none:=by simpa using g2
  rw [g2]
  cases dz l1 r1<;>rfl
 ·have g1:dz l1 r1=none:=by simpa using g1
  rw [g1]
theorem s_ {V:View}{v:Value}{r1:Int}{l1:List Nd}(h1:AT V v r1 l1)(hb1:∀x∈l1,Bd x.ln){y:Value}(hy:mT V 0 y) :
  ab prog 34 #[v] V fun r V'=>∃o e,r=.tuple #[o,e]/\(dz l1 r1=none->o=.agg #[.int .i64 0,.slice none 0 0]/\e=y)/\(∀t,dz l1 r1=some t->AT V' o (rt 0 t) (wr 0 t)/\e=.nilIface):=by
 have h10:=h1
 obtain ⟨q1,m1,d1,rfl,-⟩:=h1
 refine rk r1 q1 m1 d1 V _ fun V1 k1=>(dW hb1 (h10.le k1)).mono ?_
 rintro r V2 k2 ⟨a,rfl,ha⟩
 refine ⟨_,_,rfl,fun g1=>⟨y,⟨_,rfl,hy.le (k1.trans k2)⟩,fun V3 k3=>⟨_,_,rfl,fun _=>⟨rfl,rfl⟩,fun t ht=>?_⟩⟩,fun g1 V4 k4=>?_⟩
 ·have g1:dz l1 r1=none:=by simpa using g1
  rw [g1] at ht;cases ht
 ·have g1:(dz l1 r1).isSome=true:=by simpa using g1
  obtain ⟨s,hs⟩:=Option.isSome_iff_exists.1 g1
  have:=pt hs
  refine (rL ((ha s hs).le k4) (jr hb1 hs) (by omega)).mono ?_
  rintro r V5 k5 ⟨q,n,c,rfl,hns⟩
  refine ⟨_,_,_,_,rfl,fun V6 k6=>⟨_,_,rfl,(fun h=>by rw [hs] at h;cases h),fun t ht=>?_⟩⟩
  rw [hs] at ht;cases ht
  exact ⟨⟨_,_,_,rfl,hns.le k6⟩,rfl⟩
end Go.Proofs.Tryz
namespace Go.Proofs.Tryz
open Go.dS
section
variable {α:Type}
structure Ord (c:α->α->Int):Prop where
 E4:∀a b,c a b<0->¬c b a<0
 tr:∀a b d,¬c a b<0->¬c b d<0->¬c a d<0
variable {c:α->α->Int}
theorem Ord.le (h:Ord c){a b:α}(l:c a b<0):¬c b a<0:=h.E4 a b l
theorem Ord.refl (h:Ord c)(a:α):¬c a a<0:=fun l=>h.E4 a a l l
def nk (d:α)(l:List α)(i j:Nat):List α:=(l.set i (l.getD j d)).set j (l.getD i d)
variable {d:α}
theorem tO {l:List α}{i j:Nat}:(nk d l i j).length=l.length:=by simp [nk]
theorem kC {l:List α}{i k:Nat}{x:α}(hi:i<l.length):(l.set i x).getD k d=if k=i then x else l.getD k d:=by
 simp only [List.getD_eq_getElem?_getD,List.getElem?_set]
 by_cases h:k=i
 ·subst h;simp [hi]
 ·have:¬i=k:=fun e=>h e.symm
  simp [h,this]
theorem jX {l:List α}{i j k:Nat}(hi:i<l.length)(hj:j<l.length):(nk d l i j).getD k d=if k=j then l.getD i d else if k=i then l.getD j d else l.getD k d:=by
 unfold nk
 rw [kC (by simpa using hj),kC hi]
theorem B1 {l:List α}{i j:Nat}(hi:i<l.length)(hj:j<l.length):(nk d l i j).Perm l:=by
 have h:=Array.swap_perm (xs:=l.toArray) (i:=i) (j:=j) (by simpa using hi) (by simpa using hj)
 have e:(l.toArray.swap i j (by simpa using hi) (by simpa using hj)).toList=nk d l i j:=by
  simp [Array.swap,nk,List.getD_eq_getElem?_getD,hi,hj]
 have:=h.toList
 rw [e] at this
 simpa using this
structure me (d:α) (l m:List α) (a b:Nat):Prop where
 len:m.length=l.length
 out:∀k,¬(a<=k/\k<b)->m.getD k d=l.getD k d
 mem:∀k,a<=k->k<b->∃k',a<=k'/\k'<b/\m.getD k d=l.getD k' d
 perm:m.Perm l
theorem me.refl (l:List α)(a b:Nat):me d l l a b:=⟨rfl,fun _ _=>rfl,fun k h h'=>⟨k,h,h',rfl⟩,.refl _⟩
theorem me.trans {l m n:List α}{a b:Nat}(h:me d l m a b)(g:me d m n a b):me d l n a b:=
 ⟨g.len.trans h.len,fun k hk=>(g.out k hk).trans (h.out k hk),fun k h1 h2=>by
  obtain ⟨k',h3,h4,e⟩:=g.mem k h1 h2
  obtain ⟨k'',h5,h6,e'⟩:=h.mem k' h3 h4
  exact ⟨k'',h5,h6,e.trans e'⟩,g.perm.trans h.perm⟩
theorem me.wide {l m:List α}{a b a' b':Nat}(h:me d l m a b)(ha:a'<=a)(hb:b<=b'):me d l m a' b':=
 ⟨h.len,fun k hk=>h.out k (by omega),fun k h1 h2=>by
  by_cases hk:a<=k/\k<b
  ·obtain ⟨k',h3,h4,e⟩:=h.mem k hk.1 hk.2
   exact ⟨k',by omega,by omega,e⟩
  ·exact ⟨k,h1,h2,h.out k hk⟩,h.perm⟩
theorem me.nk {l:List α}{a b i j:Nat}(hi:a<=i)(hi':i<b)(hj:a<=j)(hj':j<b)(hb:b<=l.length):me d l (nk d l i j) a b:=by
 refine ⟨tO,fun k hk=>?_,fun k h1 h2=>?_,B1 (by omega) (by omega)⟩
 ·rw [jX (by omega) (by omega),if_neg (by omega),if_neg (by omega)]
 ·rw [jX (by omega) (by omega)]
  split
  ·exact ⟨i,hi,hi',rfl⟩
  ·split
   ·exact ⟨j,hj,hj',rfl⟩
   ·exact ⟨k,h1,h2,rfl⟩
def qo (c:α->α->Int)(d:α)(l:List α)(a b:Nat):Prop:=∀p q,a<=p->p<q->q<b->¬c (l.getD q d) (l.getD p d)<0
theorem qo.short {l:List α}{a b:Nat}(h:b<=a+1):qo c d l a b:=fun p q h1 h2 h3=>by omega
theorem qo.step (ho:Ord c){l:List α}{a b:Nat}(h:qo c d l a b)(h0:a<b)(hb:¬c (l.getD b d) (l.getD (b-1) d)<0):qo c d l a (b+1):=by
 intro p q h1 h2 h3
 by_cases e:q=b
 ·subst e
  by_cases e':p=q-1
  ·subst e';exact hb
  ·exact ho.tr _ _ _ hb (h p (q-1) h1 (by omega) (by omega))
 ·exact h p q h1 h2 (by omega)
def D4 (c:α->α->Int)(d:α)(l:List α)(a i j:Nat):Prop:=∀p q,a<=p->p<q->q<=i->q≠j->¬c (l.getD q d) (l.getD p d)<0
theorem D4.start {l:List α}{a i:Nat}(h:qo c d l a i):D4 c d l a i i:=fun p q h1 h2 h3 h4=>h p q h1 h2 (by omega)
theorem D4.done (ho:Ord c){l:List α}{a i j:Nat}(h:D4 c d l a i j)(hji:j<=i)(hs:j<=a\/¬c (l.getD j d) (l.getD (j-1) d)<0):qo c d l a (i+1):=by
 intro p q h1 h2 h3
 by_cases e:q=j
 ·subst e
  rcases hs with hs|hs
  ·omega
  ·by_cases e':p=q-1
   ·subst e';exact hs
   ·exact ho.tr _ _ _ hs (h p (q-1) h1 (by omega) (by omega) (by omega))
 ·exact h p q h1 h2 (by omega) e
theorem D4.move (ho:Ord c){l:List α}{a i j:Nat}(h:D4 c d l a i j)(hj:a<j)(hji:j<=i)(hi:i<l.length)(hl:c (l.getD j d) (l.getD (j-1) d)<0):D4 c d (nk d l j (j-1)) a i (j-1):=by
 intro p q h1 h2 h3 h4
 have ha:=fun k=>jX (d:=d) (l:=l) (i:=j) (j:=j-1) (k:=k) (by omega) (by omega)
 rw [ha,ha]
 by_cases eq:q=j
 ·subst eq
  rw [if_neg (by omega),if_pos rfl]
  by_cases ep:p=q-1
  ·rw [if_pos ep];exact ho.E4 _ _ hl
  ·rw [if_neg ep,if_neg (by omega)];exact h p (q-1) h1 (by omega) (by omega) (by omega)
 ·rw [if_neg h4,if_neg eq]
  by_cases ep:p=j-1
  ·rw [if_pos ep];exact h j q (by omega) (by omega) h3 eq
  ·rw [if_neg ep]
   by_cases Kz:p=j
   ·rw [if_pos Kz];exact h (j-1) q (by omega) (by omega) h3 eq
   ·rw [if_neg Kz];exact h p q h1 h2 h3 eq
def Hp (c:α->α->Int)(d:α)(l:List α)(f lo hi:Nat)(r:Option Nat):Prop:=
 (∀i k,lo<=i->(k=2*i+1\/k=2*i+2)->k<hi->r≠some i->¬c (l.getD (f+i) d) (l.getD (f+k) d)<0) /\
 (∀i j k,r=some j->lo<=i->(j=2*i+1\/j=2*i+2)->(k=2*j+1\/k=2*j+2)->k<hi->¬c (l.getD (f+i) d) (l.getD (f+k) d)<0)
theorem Hp.top (ho:Ord c){l:List α}{f hi:Nat}(h:Hp c d l f 0 hi none):∀k,k<hi->¬c (l.getD f d) (l.getD (f+k) d)<0:=by
 intro k
 induction k using Nat.strongRecOn with
 | ind k ih=>
  intro hk
  by_cases h0:k=0
  ·subst h0;exact ho.refl _
  ·exact ho.tr _ _ _ (ih ((k-1) / 2) (by omega) (by omega)) (h.1 ((k-1) / 2) k (by omega) (by omega) hk (by simp))
theorem Hp.leaf {l:List α}{f lo hi r:Nat}(h:Hp c d l f lo hi (some r))(hr:hi<=2*r+1):Hp c d l f lo hi none:=
 ⟨fun i k h1 h2 h3 _=>by
  by_cases e:r=i
  ·omega
  ·exact h.1 i k h1 h2 h3 (by simpa using e),fun i j k e=>by cases e⟩
theorem Hp.stop (ho:Ord c){l:List α}{f lo hi r k:Nat}(h:Hp c d l f lo hi (some r))(hk:k=2*r+1\/k=2*r+2)(hm:∀k',(k'=2*r+1\/k'=2*r+2)->k'<hi->¬c (l.getD (f+k) d) (l.getD (f+k') d)<0)
  (hs:¬c (l.getD (f+r) d) (l.getD (f+k) d)<0):Hp c d l f lo hi none:=
 ⟨fun i k' h1 h2 h3 _=>by
  by_cases e:r=i
  ·subst e;exact ho.tr _ _ _ hs (hm k' h2 h3)
  ·exact h.1 i k' h1 h2 h3 (by simpa using e),fun i j k e=>by cases e⟩
theorem Hp.down (ho:Ord c){l:List α}{f lo hi r k:Nat}(h:Hp c d l f lo hi (some r))(hlo:lo<=r)(hl:f+hi<=l.length)(hk:k=2*r+1\/k=2*r+2)(hkh:k<hi)(hm:∀k',(k'=2*r+1\/k'=2*r+2)->k'<hi->¬c (l.getD (f+k) d) (l.getD (f+k') d)<0)
  (hs:c (l.getD (f+r) d) (l.getD (f+k) d)<0):Hp c d (nk d l (f+r) (f+k)) f lo hi (some k):=by
 have ha:=fun x=>jX (d:=d) (l:=l) (i:=f+r) (j:=f+k) (k:=x) (by omega) (by omega)
 refine ⟨fun i k' h1 h2 h3 h4=>?_,fun i j k' e h1 h2 h3 h4=>?_⟩
 ·have h4:¬i=k:=fun e=>h4 (by rw [e])
  rw [ha,ha,if_neg (show ¬f+i=f+k by omega)]
  by_cases er:i=r
  ·subst er
   rw [if_pos rfl]
   by_cases ek:k'=k
   ·rw [if_pos (by omega)];exact ho.E4 _ _ hs
   ·rw [if_neg (by omega),if_neg (by omega)];exact hm k' h2 h3
  ·rw [if_neg (by omega)]
   by_cases ek:k'=r
   ·subst ek
    rw [if_neg (by omega),if_pos rfl]
    exact h.2 i k' k rfl h1 h2 hk hkh
   ·rw [if_neg (by omega),if_neg (by omega)]
    exact h.1 i k' h1 h2 h3 (by simp;omega)
 ·cases e
  rw [ha,ha]
  have:i=r:=by omega
  subst this
  rw [if_neg (by omega),if_pos rfl,if_neg (by omega),if_neg (by omega)]
  exact h.1 k k' (by omega) h3 h4 (by simp;omega)
theorem Hp.more {l:List α}{f lo hi:Nat}(h:Hp c d l f (lo+1) hi none):Hp c d l f lo hi (some lo):=
 ⟨fun i k h1 h2 h3 h4=>h.1 i k (by have:¬lo=i:=fun e=>h4 (by rw [e]);omega) h2 h3 (by simp),fun i j k e h1 h2 h3 h4=>by cases e;omega⟩
def Sep (c:α->α->Int)(d:α)(l:List α)(a m b:Nat):Prop:=∀p q,a<=p->p<m->m<=q->q<b->¬c (l.getD q d) (l.getD p d)<0
theorem me.sep {l m:List α}{a b x y z:Nat}(h:me d l m a b)(hs:Sep c d l x y z)(hc:(x<=a/\b<=y)\/(y<=a/\b<=z)\/b<=x\/z<=a):Sep c d m x y z:=by
 intro p q h1 h2 h3 h4
 have key:∀k,∃k',m.getD k d=l.getD k' d/\(k=k'\/a<=k/\k<b/\a<=k'/\k'<b):=fun k=>by
  by_cases hk:a<=k/\k<b
  ·obtain ⟨k',e1,e2,e⟩:=h.mem k hk.1 hk.2
   exact ⟨k',e,.inr ⟨hk.1,hk.2,e1,e2⟩⟩
  ·exact ⟨k,h.out k hk,.inl rfl⟩
 obtain ⟨p',e1,e2⟩:=key p
 obtain ⟨q',f1,f2⟩:=key q
 rw [e1,f1]
 exact hs p' q' (by omega) (by omega) (by omega) (by omega)
theorem me.Cf {l m:List α}{a b x y:Nat}(h:me d l m a b)(hs:qo c d l x y)(hc:y<=a\/b<=x):qo c d m x y:=by
 intro p q h1 h2 h3
 rw [h.out p (by omega),h.out q (by omega)]
 exact hs p q h1 h2 h3
theorem qo.join {l:List α}{a m b:Nat}(h1:qo c d l a m)(h2:qo c d l m b)(h3:Sep c d l a m b):qo c d l a b:=by
 intro p q g1 g2 g3
 by_cases hq:q<m
 ·exact h1 p q g1 g2 hq
 ·by_cases hp:m<=p
  ·exact h2 p q hp g2 g3
  ·exact h3 p q g1 (by omega) (by omega) g3
end
end Go.Proofs.Tryz
namespace Go.Proofs.Tryz.H4
abbrev V2:=Rat×Rat
def cr (u v:V2):Rat:=u.1*v.2-u.2*v.1
def up (u:V2):Prop:=u.2>0\/u.2=0/\u.1>0
def dn (u:V2):Prop:=u.2<0\/u.2=0/\u.1<0
def nz (u:V2):Prop:=u.1≠0\/u.2≠0
def Me (u v:V2):Prop:=(up u/\dn v)\/((up u/\up v\/dn u/\dn v)/\cr u v>0)
def Ni (s r:V2):Prop:=∃c:Rat,c>0/\s.1=-(c*r.1)/\s.2=-(c*r.2)
theorem CP (u w r:V2):cr u r*w.2+cr r w*u.2=cr u w*r.2:=by unfold cr;grind
theorem mp {a b:Rat}(ha:a>0)(hb:b>0):a*b>0:=Rat.mul_pos ha hb
theorem mn {a b:Rat}(ha:a≥0)(hb:b≥0):a*b≥0:=Rat.mul_nonneg ha hb
theorem b1 {u w r:V2}(hu:up u)(hw:dn w)(hr:up r)(a:cr u r>0)(b:cr r w<=0)(c:cr u w≥0):False:=by
 have e:=CP u w r
 unfold up at hu hr;unfold dn at hw
 have h1:cr u r*(-w.2)≥0:=mn (by grind) (by grind)
 have h2:(-(cr r w))*u.2≥0:=mn (by grind) (by grind)
 have h3:cr u w*r.2≥0:=mn c (by grind)
 have z1:cr u r*w.2=0:=by grind
 have w2:w.2=0:=by rcases Rat.mul_eq_zero.1 z1 with h|h<;>grind
 have w1:w.1<0:=by grind
 have bb:cr r w=-(r.2*w.1):=by unfold cr;grind
 have r2:r.2=0:=by
  by_cases h:r.2>0
  ·have:=mp h (show -w.1>0 by grind)
   grind
  ·grind
 have r1:r.1>0:=by grind
 have aa:cr u r=-(u.2*r.1):=by unfold cr;grind
 have:=mn (show u.2≥0 by grind) (show r.1≥0 by grind)
 grind
theorem b2 {u w r:V2}(hu:up u)(hw:dn w)(hr:dn r)(a:cr u r<=0)(b:cr r w>0)(c:cr u w≥0):False:=by
 have e:=CP u w r
 unfold up at hu;unfold dn at hw hr
 have h1:(-(cr u r))*(-w.2)≥0:=mn (by grind) (by grind)
 have h2:cr r w*u.2≥0:=mn (by grind) (by grind)
 have h3:cr u w*(-r.2)≥0:=mn c (by grind)
 have z1:cr r w*u.2=0:=by grind
 have u2:u.2=0:=by rcases Rat.mul_eq_zero.1 z1 with h|h<;>grind
 have u1:u.1>0:=by grind
 have cc:cr u w=u.1*w.2:=by unfold cr;grind
 have w2:w.2=0:=by
  by_cases h:w.2<0
  ·have:=mp u1 (show -w.2>0 by grind)
   grind
  ·grind
 have w1:w.1<0:=by grind
 have bb:cr r w=-(r.2*w.1):=by unfold cr;grind
 have:=mn (show -r.2≥0 by grind) (show -w.1≥0 by grind)
 grind
theorem b3 {u w r:V2}(hu:dn u)(hw:up w)(hr:dn r)(a:cr u r>0)(b:cr r w<=0)(c:cr u w≥0):False:=by
 have e:=CP u w r
 unfold dn at hu hr;unfold up at hw
 have h1:cr u r*w.2≥0:=mn (by grind) (by grind)
 have h2:(-(cr r w))*(-u.2)≥0:=mn (by grind) (by grind)
 have h3:cr u w*(-r.2)≥0:=mn c (by grind)
 have z1:cr u r*w.2=0:=by grind
 have w2:w.2=0:=by rcases Rat.mul_eq_zero.1 z1 with h|h<;>grind
 have w1:w.1>0:=by grind
 have bb:cr r w=-(r.2*w.1):=by unfold cr;grind
 have r2:r.2=0:=by
  by_cases h:r.2<0
  ·have:=mp w1 (show -r.2>0 by grind)
   grind
  ·grind
 have r1:r.1<0:=by grind
 have aa:cr u r=-(u.2*r.1):=by unfold cr;grind
 have:=mn (show -u.2≥0 by grind) (show -r.1≥0 by grind)
 grind
theorem b4 {u w r:V2}(hu:dn u)(hw:up w)(hr:up r)(a:cr u r<=0)(b:cr r w>0)(c:cr u w≥0):False:=by
 have e:=CP u w r
 unfold dn at hu;unfold up at hw hr
 have h1:(-(cr u r))*w.2≥0:=mn (by grind) (by grind)
 have h2:cr r w*(-u.2)≥0:=mn (by grind) (by grind)
 have h3:cr u w*r.2≥0:=mn c (by grind)
 have z1:cr r w*u.2=0:=by grind
 have u2:u.2=0:=by rcases Rat.mul_eq_zero.1 z1 with h|h<;>grind
 have u1:u.1<0:=by grind
 have cc:cr u w=u.1*w.2:=by unfold cr;grind
 have w2:w.2=0:=by
  by_cases h:w.2>0
  ·have:=mp h (show -u.1>0 by grind)
   grind
  ·grind
 have w1:w.1>0:=by grind
 have bb:cr r w=-(r.2*w.1):=by unfold cr;grind
 have:=mn (show r.2≥0 by grind) (show w.1≥0 by grind)
 grind
structure Hw (D:List V2):Prop where
 nz:∀r∈D,nz r
 cl:∀r∈D,∃s∈D,Ni s r
 Cf:D.Pairwise Me
def ss (a b:Rat):Prop:=(b>0->a>0)/\(b<0->a<0)
section
variable {D:List V2} (h:Hw D) {v:V2} (hv:∀r ∈ D,cr r v≠0)
include h hv
omit hv in
end
section
variable {D:List V2} (h:Hw D)
include h
end
section
variable {D:List V2} (h:Hw D)
include h
end
end Go.Proofs.Tryz.H4
namespace Go.Proofs.Tryz
open Go.br Go.dS
def Tr.depth:Tr->Nat
 | .leaf _=>0
 | .node _ a b=>1+max a.depth b.depth
end Go.Proofs.Tryz
namespace Go.br
open Go.Proofs.Tryz
variable {α:Type} {sz:Nat} {R:View->Value->α->Prop} {V V':View} {d:α}
theorem Row.get {vs:List Value}{al:List α}(h:Row sz R V vs al){i:Nat}(hi:i<al.length)(hs:0<sz) :
  ∃xs:List Value,xs.length=sz/\R V (.agg xs.toArray) (al.getD i d)/\i*sz+sz<=vs.length/\(vs.drop (i*sz)).take sz=xs:=by
 obtain ⟨xs,h1,h2,h3⟩:=h.at_ i hi
 have hl:=h.oR hs
 have:(i+1)*sz<=al.length*sz:=Nat.mul_le_mul_right _ hi
 rw [Nat.succ_mul] at this
 refine ⟨xs,h1,by simpa [List.getD_eq_getElem?_getD,hi] using h2,by omega,?_⟩
 apply List.ext_getElem?
 intro j
 rw [List.getElem?_take]
 split
 ·rename_i hj
  rw [List.getElem?_drop]
  have hx:j<xs.length:=by omega
  rw [h3 j _ (List.getElem?_eq_getElem hx),List.getElem?_eq_getElem hx]
 ·rename_i hj
  rw [List.getElem?_eq_none (by omega)]
theorem Row.put {vs:List Value}{al:List α}(h:Row sz R V vs al){i:Nat}(hi:i<al.length)(hs:0<sz){xs:List Value}{a:α}(hx:xs.length=sz)(ha:R V (.agg xs.toArray) a) :
  Row sz R V (cq vs (i*sz) xs) (al.set i a):=by
 have hl:=h.oR hs
 have h9:∀k,k<al.length->k*sz+sz<=vs.length:=fun k hk=>by
  have:(k+1)*sz<=al.length*sz:=Nat.mul_le_mul_right _ hk
  rw [Nat.succ_mul] at this
  omega
 have hi9:=h9 i hi
 rw [eg (by omega)]
 have ht:(vs.take (i*sz)).length=i*sz:=by rw [List.length_take];omega
 refine ⟨fun k hk=>?_⟩
 rw [List.length_set] at hk
 by_cases e:k=i
 ·subst e
  refine ⟨xs,hx,by simpa using ha,fun j x hj=>?_⟩
  have hj':=(List.getElem?_eq_some_iff.1 hj).1
  rw [List.append_assoc,List.getElem?_append_right (by omega),ht,Nat.add_sub_cancel_left,List.getElem?_append_left hj']
  exact hj
 ·obtain ⟨ys,y1,y2,y3⟩:=h.at_ k hk
  refine ⟨ys,y1,by rw [List.getElem_set_ne (fun e'=>e e'.symm)];exact y2,fun j x hj=>?_⟩
  have hj':=(List.getElem?_eq_some_iff.1 hj).1
  by_cases lt:k<i
  ·have:(k+1)*sz<=i*sz:=Nat.mul_le_mul_right _ lt
   rw [Nat.succ_mul] at this
   rw [List.append_assoc,List.getElem?_append_left (by omega),List.getElem?_take,if_pos (by omega)]
   exact y3 j x hj
  ·have:(i+1)*sz<=k*sz:=Nat.mul_le_mul_right _ (by omega)
   rw [Nat.succ_mul] at this
   rw [List.getElem?_append_right (by rw [List.length_append];omega),List.length_append,ht,hx,List.getElem?_drop]
   rw [show i*sz+sz+(k*sz+j-(i*sz+sz))=k*sz+j by omega]
   exact y3 j x hj
theorem vJ {vs xs:List Value}{o:Nat}(h:o+xs.length<=vs.length):(cq vs o xs).length=vs.length:=by
 rw [eg h];simp only [List.length_append,List.length_take,List.length_drop];omega
theorem Row.swap {vs:List Value}{al:List α}(h:Row sz R V vs al){i j:Nat}(hi:i<al.length)(hj:j<al.length)(hs:0<sz){xs ys:List Value}(hx:xs.length=sz)(hy:ys.length=sz)(h1:R V (.agg xs.toArray) (al.getD i d))(h2:R V (.agg ys.toArray) (al.getD j d)) :
  Row sz R V (cq (cq vs (i*sz) ys) (j*sz) xs) (nk d al i j):=by
 have:=h.put hi hs hy h2
 exact this.put (by simpa using hj) hs hx h1
end Go.br
namespace Go.Proofs.Tryz
open Go.br Go.dS
section
variable {α:Type} (e:α->α->Bool)
variable {e}
end
end Go.Proofs.Tryz
namespace Go.br
open Go.Proofs.Tryz
section
variable {α:Type} {sz:Nat} {R:View->Value->α->Prop} {V:View} {d:α}
end
end Go.br
namespace Go.Proofs.Tryz
open Go.br Go.dS
theorem Lx.ex {V:View}{v:Value}{l:L3}{s:Sp}(h:E3 V v l s):∃(x1 x2:Int)(p:OA)(y1 y2:Int)(q:OA)(z1 z2:Int)(r:OA)(u1 u2:Int)(t:OA)(w1 w2:Int)(o:OA),
 v=.agg #[.int .i64 x1,.int .i64 x2,.pointer p,.int .i64 y1,.int .i64 y2,.pointer q,.int .i64 z1,.int .i64 z2,.pointer r,.int .i64 u1,.int .i64 u2,.pointer t,.int .i64 w1,.int .i64 w2,.pointer o,.bool s.a,.bool s.b]:=by
 obtain ⟨_,_,_,_,_,_,_,_,_,_,_,_,_,_,_,e,-⟩:=h;exact ⟨_,_,_,_,_,_,_,_,_,_,_,_,_,_,_,e⟩
end Go.Proofs.Tryz
namespace Go.Proofs.Tryz
open Go.br
set_option maxRecDepth 100000
end Go.Proofs.Tryz
namespace Go.Proofs.Tryz
open Go.br Go.dS
structure wI (V:View) (p:OA) (n:Nat) (fs:List (L3×Sp)):Prop where
 len:n=fs.length
 at_:∀(i:Nat)(h:i<fs.length),∃ad,af p (i*17)=some ad/\∃xs:List Value,E3 V (.agg xs.toArray) fs[i].1 fs[i].2/\∀j x,xs[j]?=some x->V.at (ad.add j) x
theorem wI.le {V V':View}{p:OA}{n:Nat}{fs:List (L3×Sp)}(h:wI V p n fs)(e:V.Le V'):wI V' p n fs:=⟨h.len,fun i hi=>by obtain ⟨ad,h1,xs,h2,h3⟩:=h.at_ i hi;exact ⟨ad,h1,xs,h2.le e,fun j x hx=>e.at (h3 j x hx)⟩⟩
theorem wI.nil {V:View}:wI V none 0 []:=⟨rfl,fun i hi=>by simp at hi⟩
theorem wI.one {V:View}{bk:Nat}{xs:List Value}{ty:TypeId}{l:L3}{s:Sp}(hb:V.bf bk (.cells xs.toArray ty (0,0)))(hf:E3 V (.agg xs.toArray) l s):wI V (some ⟨bk,0,none⟩) 1 [(l,s)]:=by
 refine ⟨rfl,fun i hi=>?_⟩
 obtain rfl:i=0:=by simpa using hi
 refine ⟨⟨bk,0,none⟩,by simp [af,add_zero'],_,hf,fun j x hx=>?_⟩
 rw [add_zero']
 exact bW hb hx
end Go.Proofs.Tryz
namespace Go.Proofs.Tryz
open Go.br
set_option maxRecDepth 100000
end Go.Proofs.Tryz
namespace Go.Proofs.Tryz
open Go.br Go.dS
def Ej:L3:=(0,0,0)
def B_ (V:View)(v:Value)(c:L3):Prop:=uv V v c.1 c.2.1 c.2.2/\Bd c
theorem B_.le {V V':View}{v:Value}{c:L3}(h:B_ V v c)(l:V.Le V'):B_ V' v c:=⟨h.1.le l,h.2⟩
theorem B_.shape {V:View}{v:Value}{c:L3}(h:B_ V v c):∃(x y:Int)(p:OA)(xb yb:Int)(pb:OA)(xc yc:Int)(pc:OA),v=.agg #[.int .i64 x,.int .i64 y,.pointer p,.int .i64 xb,.int .i64 yb,.pointer pb,.int .i64 xc,.int .i64 yc,.pointer pc]:=by
 obtain ⟨⟨x1,x2,p,y1,y2,q,z1,z2,r,e,-⟩,-⟩:=h;exact ⟨_,_,_,_,_,_,_,_,_,e⟩
end Go.Proofs.Tryz
namespace Go.Proofs.Tryz
open Go.dS
section
variable {α:Type} {c:α->α->Int} {d:α}
structure PQ (c:α->α->Int) (d:α) (l0 l:List α) (a0 b0 a b:Nat):Prop where
 HP:me d l0 l a0 b0
 ha:a0<=a
 wF:a<=b
 hb:b<=b0
 lo:qo c d l a0 a
 hi:qo c d l b b0
 s1:Sep c d l a0 a b0
 s2:Sep c d l a0 b b0
 pre:0<a->∀k,a<=k->k<b->¬c (l.getD k d) (l.getD (a-1) d)<0
variable {l0 l m:List α} {a0 b0 a b mid:Nat}
theorem PQ.start {l:List α}(h:a<=b)(hp:0<a->∀k,a<=k->k<b->¬c (l.getD k d) (l.getD (a-1) d)<0):PQ c d l l a b a b:=
 ⟨.refl _ _ _,Nat.le_refl _,h,Nat.le_refl _,.short (by omega),.short (by omega),fun p q h1 h2=>by omega,fun p q h1 h2 h3 h4=>by omega,hp⟩
theorem PQ.change (h:PQ c d l0 l a0 b0 a b)(hs:me d l m a b):PQ c d l0 m a0 b0 a b:=
 ⟨h.HP.trans (hs.wide h.ha h.hb),h.ha,h.wF,h.hb,hs.Cf h.lo (.inl (Nat.le_refl _)),hs.Cf h.hi (.inr (Nat.le_refl _)),hs.sep h.s1 (.inr (.inl ⟨Nat.le_refl _,h.hb⟩)),hs.sep h.s2 (.inl ⟨h.ha,Nat.le_refl _⟩),fun h0 k h1 h2=>by
  obtain ⟨k',h3,h4,e⟩:=hs.mem k h1 h2
  rw [e,hs.out (a-1) (by omega)]
  exact h.pre h0 k' h3 h4⟩
theorem PQ.fin (h:PQ c d l0 l a0 b0 a b)(hs:me d l m a b)(ha:qo c d m a b):me d l0 m a0 b0/\qo c d m a0 b0:=by
 have h':=h.change hs
 refine ⟨h'.HP,h'.lo.join (ha.join h'.hi fun p q h1 h2 h3 h4=>h'.s2 p q (by have:=h.ha;omega) h2 h3 h4) h'.s1⟩
theorem PQ.left (ho:Ord c)(h:PQ c d l0 l a0 b0 a b)(hm:a<=mid)(hm':mid<b)(h1:∀k,a<=k->k<mid->c (l.getD k d) (l.getD mid d)<0)(h2:∀k,mid<k->k<b->¬c (l.getD k d) (l.getD mid d)<0)
  (hs:me d l m a mid)(ha:qo c d m a mid):PQ c d l0 m a0 b0 (mid+1) b:=by
 have e0:=h.ha
 have e1:=h.hb
 have em:m.getD mid d=l.getD mid d:=hs.out mid (by omega)
 have below:∀k,a<=k->k<mid->¬c (m.getD mid d) (m.getD k d)<0:=fun k g1 g2=>by
  obtain ⟨k',g3,g4,e⟩:=hs.mem k g1 g2
  rw [em,e];exact ho.E4 _ _ (h1 k' g3 g4)
 have t1:=hs.sep h.s1 (.inr (.inl ⟨Nat.le_refl _,by omega⟩))
 have t2:=hs.sep h.s2 (.inl ⟨e0,by omega⟩)
 have up:∀q,mid<q->q<b->¬c (m.getD q d) (m.getD mid d)<0:=fun q g1 g2=>by rw [em,hs.out q (by omega)];exact h2 q g1 g2
 refine ⟨h.HP.trans (hs.wide e0 (by omega)),by omega,by omega,e1,(hs.Cf h.lo (.inl (Nat.le_refl _))).join (m:=a) (fun p q g1 g2 g3=>?_) fun p q g1 g2 g3 g4=>t1 p q g1 g2 g3 (by omega),hs.Cf h.hi (.inr (by omega)),fun p q g1 g2 g3 g4=>?_,t2,fun _ k g1 g2=>up k (by omega) g2⟩
 ·by_cases e:q=mid
  ·subst e;exact below p g1 g2
  ·exact ha p q g1 g2 (by omega)
 ·by_cases hq:b<=q
  ·exact t2 p q g1 (by omega) hq g4
  ·by_cases hp:p<a
   ·exact t1 p q g1 hp (by omega) g4
   ·have u:=up q (by omega) (by omega)
    by_cases e:p=mid
    ·subst e;exact u
    ·exact ho.tr _ _ _ u (below p (by omega) (by omega))
theorem PQ.right (ho:Ord c)(h:PQ c d l0 l a0 b0 a b)(hm:a<=mid)(hm':mid<b)(h1:∀k,a<=k->k<mid->c (l.getD k d) (l.getD mid d)<0)(h2:∀k,mid<k->k<b->¬c (l.getD k d) (l.getD mid d)<0)
  (hs:me d l m (mid+1) b)(ha:qo c d m (mid+1) b):PQ c d l0 m a0 b0 a mid:=by
 have e0:=h.ha
 have e1:=h.hb
 have em:m.getD mid d=l.getD mid d:=hs.out mid (by omega)
 have up:∀q,mid<q->q<b->¬c (m.getD q d) (m.getD mid d)<0:=fun q g1 g2=>by
  obtain ⟨k',g3,g4,e⟩:=hs.mem q (by omega) g2
  rw [em,e];exact h2 k' (by omega) g4
 have below:∀k,a<=k->k<mid->¬c (m.getD mid d) (m.getD k d)<0:=fun k g1 g2=>by
  rw [em,hs.out k (by omega)];exact ho.E4 _ _ (h1 k g1 g2)
 have t1:=hs.sep h.s1 (.inr (.inl ⟨by omega,e1⟩))
 have t2:=hs.sep h.s2 (.inl ⟨by omega,Nat.le_refl _⟩)
 have t3:=hs.Cf h.hi (.inr (Nat.le_refl _))
 refine ⟨h.HP.trans (hs.wide (by omega) e1),e0,hm,by omega,hs.Cf h.lo (.inl (by omega)),fun p q g1 g2 g3=>?_,t1,fun p q g1 g2 g3 g4=>?_,fun h0 k g1 g2=>?_⟩
 ·by_cases hq:q<b
  ·by_cases e:p=mid
   ·subst e;exact up q g2 hq
   ·exact ha p q (by omega) g2 hq
  ·by_cases hp:p<b
   ·exact t2 p q (by omega) hp (by omega) g3
   ·exact t3 p q (by omega) g2 g3
 ·by_cases hq:b<=q
  ·exact t2 p q g1 (by omega) hq g4
  ·by_cases hp:p<a
   ·exact t1 p q g1 hp (by omega) g4
   ·have u:=below p (by omega) g2
    by_cases e:q=mid
    ·subst e;exact u
    ·exact ho.tr _ _ _ (up q (by omega) (by omega)) u
 ·rw [hs.out k (by omega),hs.out (a-1) (by omega)];exact h.pre h0 k g1 (by omega)
structure HQ (c:α->α->Int) (d:α) (l:List α) (f i n:Nat):Prop where
 hp:Hp c d l f 0 i none
 Cf:qo c d l (f+i) (f+n)
 sep:Sep c d l f (f+i) (f+n)
theorem HQ.start {f n:Nat}(h:Hp c d l f 0 n none):HQ c d l f n n:=⟨h,.short (by omega),fun p q h1 h2 h3 h4=>by omega⟩
theorem HQ.step (ho:Ord c){f k n:Nat}(h:HQ c d l f (k+1) n)(hk:k+1<=n)(hl:f+n<=l.length)(hs:me d (nk d l f (f+k)) m f (f+k))(hm:Hp c d m f 0 k none):HQ c d m f k n:=by
 have ha:=fun x=>jX (d:=d) (l:=l) (i:=f) (j:=f+k) (k:=x) (by omega) (by omega)
 have out:∀q,f+k<q->m.getD q d=l.getD q d:=fun q hq=>by rw [hs.out q (by omega),ha,if_neg (by omega),if_neg (by omega)]
 have top:m.getD (f+k) d=l.getD f d:=by rw [hs.out (f+k) (by omega),ha,if_pos rfl]
 refine ⟨hm,fun p q g1 g2 g3=>?_,fun p q g1 g2 g3 g4=>?_⟩
 ·rw [out q (by omega)]
  by_cases e:p=f+k
  ·rw [e,top];exact h.sep f q (Nat.le_refl _) (by omega) (by omega) g3
  ·rw [out p (by omega)];exact h.Cf p q (by omega) g2 g3
 ·have hp:∃j,j<k+1/\m.getD p d=l.getD (f+j) d:=by
   obtain ⟨p',e1,e2,e⟩:=hs.mem p g1 g2
   rw [e,ha,if_neg (by omega)]
   split
   ·exact ⟨k,by omega,rfl⟩
   ·exact ⟨p'-f,by omega,by rw [show f+(p'-f)=p' by omega]⟩
  obtain ⟨j,hj,e⟩:=hp
  rw [e]
  by_cases eq:q=f+k
  ·rw [eq,top];exact h.hp.top ho j hj
  ·rw [out q (by omega)];exact h.sep (f+j) q (by omega) (by omega) (by omega) g4
theorem HQ.fin {f n:Nat}(h:HQ c d l f 0 n):qo c d l f (f+n):=by have:=h.Cf;simpa using this
structure PT (P:α->Prop) (d:α) (l:List α) (a b i j:Nat):Prop where
 hi:a<i
 FX:i<=j+1
 hj:j<b
 lo:∀k,a<k->k<i->P (l.getD k d)
 up:∀k,j<k->k<b->¬P (l.getD k d)
variable {P:α->Prop} {i j:Nat}
theorem PT.start (h:a+1<b):PT P d l a b (a+1) (b-1):=⟨by omega,by omega,by omega,fun k h1 h2=>by omega,fun k h1 h2=>by omega⟩
theorem PT.swap (h:PT P d l a b i j)(FX:i<=j)(hl:b<=l.length)(h1:¬P (l.getD i d))(h2:P (l.getD j d)):PT P d (nk d l i j) a b (i+1) (j-1)/\(nk d l i j).getD a d=l.getD a d/\me d l (nk d l i j) a b:=by
 have e0:=h.hi
 have e1:=h.hj
 have ne:i≠j:=fun e=>h1 (e▸h2)
 have ha:=fun x=>jX (d:=d) (l:=l) (i:=i) (j:=j) (k:=x) (by omega) (by omega)
 refine ⟨⟨by omega,by omega,by omega,fun k g1 g2=>?_,fun k g1 g2=>?_⟩,by rw [ha,if_neg (by omega),if_neg (by omega)],me.nk (by omega) (by omega) (by omega) e1 hl⟩
 ·rw [ha,if_neg (by omega)]
  by_cases e:k=i
  ·rw [if_pos e];exact h2
  ·rw [if_neg e];exact h.lo k g1 (by omega)
 ·rw [ha]
  by_cases e:k=j
  ·rw [if_pos e];exact h1
  ·rw [if_neg e,if_neg (by omega)];exact h.up k (by omega) g2
theorem PT.fin (ho:Ord c)(h:PT (fun x=>c x (l.getD a d)<0) d l a b i j)(FX:¬i<=j)(hl:b<=l.length):me d l (nk d l j a) a b/\a<=j/\j<b /\
  (∀k,a<=k->k<j->c ((nk d l j a).getD k d) ((nk d l j a).getD j d)<0)/\(∀k,j<k->k<b->¬c ((nk d l j a).getD k d) ((nk d l j a).getD j d)<0):=by
 have e0:=h.hi
 have e1:=h.FX
 have e2:=h.hj
 have ha:=fun x=>jX (d:=d) (l:=l) (i:=j) (j:=a) (k:=x) (by omega) (by omega)
 have ej:(nk d l j a).getD j d=l.getD a d:=by
  rw [ha]
  by_cases e:j=a
  ·rw [if_pos e,e]
  ·rw [if_neg e,if_pos rfl]
 refine ⟨me.nk (by omega) e2 (Nat.le_refl _) (by omega) hl,by omega,e2,fun k g1 g2=>?_,fun k g1 g2=>?_⟩
 ·rw [ej,ha]
  by_cases e:k=a
  ·rw [if_pos e];exact h.lo j (by omega) (by omega)
  ·rw [if_neg e,if_neg (by omega)];exact h.lo k (by omega) (by omega)
 ·rw [ej,ha,if_neg (by omega),if_neg (by omega)];exact h.up k g1 g2
end
end Go.Proofs.Tryz
namespace Go.Proofs.Tryz
open Go.br
set_option maxRecDepth 100000
end Go.Proofs.Tryz
namespace Go.Proofs.Tryz
open Go.br Go.dS
end Go.Proofs.Tryz
namespace Go.Proofs.Tryz
open Go.br
set_option maxRecDepth 100000
end Go.Proofs.Tryz
namespace Go.Proofs.Tryz
open Go.br Go.dS
structure Du (V:View) (n:Nat) (vs:List Value) (l:List L3):Prop where
 row:Row 9 B_ V vs l
 len:n=l.length
 KC:l.length<50
theorem Du.le {V V':View}{n:Nat}{vs:List Value}{l:List L3}(h:Du V n vs l)(e:V.Le V'):Du V' n vs l:=⟨h.row.le fun _ _ g=>B_.le g e,h.len,h.KC⟩
theorem Du.get {V:View}{n:Nat}{vs:List Value}{l:List L3}(h:Du V n vs l){k:Nat}(hk:k<l.length):∃(x y:Int)(p:OA)(xb yb:Int)(pb:OA)(xc yc:Int)(pc:OA),
  ((0+k*9)+9<=vs.length/\(vs.drop (0+k*9)).take 9=[.int .i64 x,.int .i64 y,.pointer p,.int .i64 xb,.int .i64 yb,.pointer pb,.int .i64 xc,.int .i64 yc,.pointer pc])/\B_ V (.agg #[.int .i64 x,.int .i64 y,.pointer p,.int .i64 xb,.int .i64 yb,.pointer pb,.int .i64 xc,.int .i64 yc,.pointer pc]) (l.getD k Ej):=by
 obtain ⟨xs,-,h2,h3,h4⟩:=h.row.get (d:=Ej) hk (by decide)
 have h20:=h2
 obtain ⟨x,y,p,xb,yb,pb,xc,yc,pc,e⟩:=h2.shape
 have e:=congrArg Array.toList (Value.agg.inj e)
 dsimp only at e
 subst e
 rw [Nat.zero_add]
 exact ⟨x,y,p,xb,yb,pb,xc,yc,pc,⟨h3,h4⟩,h20⟩
theorem Du.swap {V:View}{n:Nat}{vs:List Value}{l:List L3}(h:Du V n vs l){i j:Nat}(hi:i<l.length)(hj:j<l.length){x y:Int}{p:OA}{xb yb:Int}{pb:OA}{xc yc:Int}{pc:OA}{x' y':Int}{p':OA}{JZ J0:Int}{pb':OA}{Hn J1:Int}{pc':OA}
  (h1:B_ V (.agg #[.int .i64 x,.int .i64 y,.pointer p,.int .i64 xb,.int .i64 yb,.pointer pb,.int .i64 xc,.int .i64 yc,.pointer pc]) (l.getD i Ej))(h2:B_ V (.agg #[.int .i64 x',.int .i64 y',.pointer p',.int .i64 JZ,.int .i64 J0,.pointer pb',.int .i64 Hn,.int .i64 J1,.pointer pc']) (l.getD j Ej)) :
  (0+i*9)+9<=vs.length/\(0+j*9)+9<=(cq vs (0+i*9) [.int .i64 x',.int .i64 y',.pointer p',.int .i64 JZ,.int .i64 J0,.pointer pb',.int .i64 Hn,.int .i64 J1,.pointer pc']).length /\
  Du V n (cq (cq vs (0+i*9) [.int .i64 x',.int .i64 y',.pointer p',.int .i64 JZ,.int .i64 J0,.pointer pb',.int .i64 Hn,.int .i64 J1,.pointer pc']) (0+j*9) [.int .i64 x,.int .i64 y,.pointer p,.int .i64 xb,.int .i64 yb,.pointer pb,.int .i64 xc,.int .i64 yc,.pointer pc]) (nk Ej l i j):=by
 obtain ⟨-,-,-,g1,-⟩:=h.row.get (d:=Ej) hi (by decide)
 obtain ⟨-,-,-,g2,-⟩:=h.row.get (d:=Ej) hj (by decide)
 rw [Nat.zero_add,Nat.zero_add]
 refine ⟨g1,by rw [vJ (by exact g1)];exact g2,h.row.swap hi hj (by decide) rfl rfl h1 h2,by rw [tO];exact h.len,by rw [tO];exact h.KC⟩
end Go.Proofs.Tryz
namespace Go.Proofs.Tryz
open Go.br
set_option maxRecDepth 100000
end Go.Proofs.Tryz
namespace Go.Proofs.Tryz
open Go.br Go.dS
structure GR {α:Type} (sz:Nat) (R:View->Value->α->Prop) (V:View) (n c:Nat) (vs:List Value) (l:List α):Prop where
 len:n=l.length
 le:n<=c
 cap:c*sz<=vs.length
 row:Row sz R V vs l
theorem GR.nil {α:Type}{sz:Nat}{R:View->Value->α->Prop}{V:View}:GR sz R V 0 0 [] []:=⟨rfl,Nat.le_refl _,by simp,Row.nil⟩
theorem GR.mono {α:Type}{sz:Nat}{R:View->Value->α->Prop}{V V':View}{n c:Nat}{vs:List Value}{l:List α}(h:GR sz R V n c vs l)(m:∀v a,R V v a->R V' v a):GR sz R V' n c vs l:=⟨h.len,h.le,h.cap,h.row.le m⟩
theorem GR.snoc {α:Type}{sz:Nat}{R:View->Value->α->Prop}{V:View}{n c:Nat}{vs:List Value}{l:List α}(h:GR sz R V n c vs l){xs:List Value}{a:α}(hx:xs.length=sz)(ha:R V (.agg xs.toArray) a)(h0:0<sz){sp:List Value}{c':Nat}(h1:n+1<=c')(h2:c'*sz<=(n+1)*sz+sp.length) :
  GR sz R V (n+1) c' (vs.take (n*sz)++xs++sp) (l++[a]):=by
 have hn:=h.len
 have hc:=h.cap
 have hl:n*sz<=c*sz:=Nat.mul_le_mul_right _ h.le
 refine ⟨by rw [List.length_append,hn];rfl,h1,?_,?_⟩
 ·have ht:(vs.take (n*sz)).length=n*sz:=by rw [List.length_take];omega
  rw [List.length_append,List.length_append,ht,hx]
  rw [Nat.succ_mul] at h2
  exact h2
 ·have:=h.row.snoc (sp:=sp) hx ha h0
  rw [←hn] at this
  exact this
end Go.Proofs.Tryz
namespace Go.Proofs.Tryz.H4
open Go.br Go.dS
def nv (l:L3)(v:V2):Rat:=(l.1:Rat)*v.1+(l.2.1:Rat)*v.2
def zh (l:L3):V2:=((l.2.1:Rat),-(l.1:Rat))
theorem GP (l:L3)(v:V2):nv l v=cr (zh l) v:=by unfold nv cr zh;grind
def Ho (D:List V2)(M:List L3):Prop:=∀l∈M,∃r∈D,∃c:Rat,c>0/\r=(c*(zh l).1,c*(zh l).2)
theorem w_ {l:L3}{r:V2}{c:Rat}(c0:c>0)(e:r=(c*(zh l).1,c*(zh l).2))(v:V2):cr r v=c*nv l v:=by
 rw [GP,e];unfold cr;grind
theorem yC {c x:Rat}(c0:c>0):(c*x>0↔x>0)/\(c*x<0↔x<0)/\(c*x=0↔x=0):=by
 have p:x>0->c*x>0:=fun h=>mp c0 h
 have n:x<0->c*x<0:=fun h=>by have:=mp c0 (show -x>0 by grind);grind
 have z:x=0->c*x=0:=fun h=>by rw [h];grind
 refine ⟨⟨fun h=>?_,p⟩,⟨fun h=>?_,n⟩,⟨fun h=>?_,z⟩⟩
 ·by_cases q:x>0
  ·exact q
  ·by_cases q':x<0
   ·have:=n q';grind
   ·have:=z (by grind);grind
 ·by_cases q:x<0
  ·exact q
  ·by_cases q':x>0
   ·have:=p q';grind
   ·have:=z (by grind);grind
 ·rcases Rat.mul_eq_zero.1 h with h|h
  ·grind
  ·exact h
theorem Ho.gen {D:List V2}{M:List L3}(h:Ho D M){v:V2}(hv:∀r∈D,cr r v≠0):∀l∈M,nv l v≠0:=by
 intro l hl e
 obtain ⟨r,hr,c,c0,e'⟩:=h l hl
 exact hv r hr (by rw [w_ c0 e',e];grind)
theorem Ho.same {D:List V2}{M:List L3}(h:Ho D M){v x:V2}(hv:∀r∈D,(cr r v>0->cr r x>0)/\(cr r v<0->cr r x<0)) :
  ∀l∈M,(nv l v>0->nv l x>0)/\(nv l v<0->nv l x<0):=by
 intro l hl
 obtain ⟨r,hr,c,c0,e'⟩:=h l hl
 have:=hv r hr
 rw [w_ c0 e',w_ c0 e'] at this
 obtain ⟨a1,a2,_⟩:=@yC c (nv l v) c0
 obtain ⟨b1,b2,_⟩:=@yC c (nv l x) c0
 exact ⟨fun h=>b1.1 (this.1 (a1.2 h)),fun h=>b2.1 (this.2 (a2.2 h))⟩
section
variable {D:List V2} (h:Hw D)
include h
omit h in
end
end Go.Proofs.Tryz.H4
namespace Go.Proofs.Tryz
open Go.br
set_option maxRecDepth 100000
end Go.Proofs.Tryz
namespace Go.Proofs.Tryz
open Go.br Go.dS
def Fe (V:View)(v:Value)(c:Rat×Rat):Prop:=Ht V v c.1 c.2/\Sz 100000 c.1/\Sz 100000 c.2
theorem Fe.le {V V':View}{v:Value}{c:Rat×Rat}(h:Fe V v c)(l:V.Le V'):Fe V' v c:=⟨h.1.le l,h.2⟩
theorem Fe.shape {V:View}{v:Value}{c:Rat×Rat}(h:Fe V v c):∃(x y:Int)(p:OA)(xb yb:Int)(pb:OA),v=.agg #[.int .i64 x,.int .i64 y,.pointer p,.int .i64 xb,.int .i64 yb,.pointer pb]:=by
 obtain ⟨⟨x1,x2,p,y1,y2,q,e,-⟩,-⟩:=h;exact ⟨_,_,_,_,_,_,e⟩
theorem GR.Hd {α:Type}{sz:Nat}{R:View->Value->α->Prop}{V:View}{n c:Nat}{vs:List Value}{l:List α}(h:GR sz R V n c vs l){xs ys:List Value}{a b:α}(hx:xs.length=sz)(hy:ys.length=sz)(ha:R V (.agg xs.toArray) a)(hb:R V (.agg ys.toArray) b)(h0:0<sz){sp:List Value}{c':Nat}(h1:n+2<=c')(h2:c'*sz<=(n+2)*sz+sp.length) :
  GR sz R V (n+2) c' (vs.take (n*sz)++(xs++ys)++sp) (l++[a,b]):=by
 have hl:=h.row.oR h0
 have hn:=h.len
 have hc:=h.cap
 have hm:n*sz<=c*sz:=Nat.mul_le_mul_right _ h.le
 have r1:=h.row.snoc (sp:=ys++sp) hx ha h0
 have r2:=r1.snoc (sp:=sp) hy hb h0
 have ht:(vs.take (l.length*sz)).length=l.length*sz:=by rw [List.length_take];omega
 have e:(vs.take (l.length*sz)++xs++(ys++sp)).take ((l++[a]).length*sz)=vs.take (l.length*sz)++xs:=by
  have:(vs.take (l.length*sz)++xs).length=(l++[a]).length*sz:=by
   rw [List.length_append,ht,hx,List.length_append,Nat.add_mul];simp
  rw [←this,List.take_left' rfl]
 rw [e] at r2
 refine ⟨by rw [List.length_append,hn];rfl,h1,?_,?_⟩
 ·rw [←hn] at ht
  simp only [List.length_append,ht,hx,hy]
  rw [Nat.add_mul] at h2
  omega
 ·rw [hn]
  simpa using r2
def J7 (_:View)(v:Value)(i:Int):Prop:=v=.agg #[.int .i64 i]
theorem BS {α:Type}{sz:Nat}{R:View->Value->α->Prop}{V:View}{vs:List Value}{al bl:List α}(h:Row sz R V vs (al++bl)):Row sz R V vs al:=by
 refine ⟨fun i hi=>?_⟩
 obtain ⟨xs,h1,h2,h3⟩:=h.at_ i (by rw [List.length_append];omega)
 rw [List.getElem_append_left hi] at h2
 exact ⟨xs,h1,h2,h3⟩
def zP (ts:List Tr):Nat:=(ts.map Tr.size).sum
theorem Bq {V:View}{p:OA}{n c:Nat}{l:List Nd}(h:NS V p n c l){k:Nat}{d:Nd}(hd:l[k]?=some d):∃a,af p (k*8)=some a/\V.at (a.add 6) (.int .i64 d.left)/\V.at (a.add 7) (.int .i64 d.right):=by
 obtain ⟨b1,p1,m1,c1,b2,p2,m2,c2,b3,p3,m3,c3,a,ha,-,-,-,-,-,-,a6,a7,-⟩:=h.rd hd
 exact ⟨a,ha,a6,a7⟩
theorem GQ {x y:Int}:∀v∈([.int .i64 x,.int .i64 y]:List Value),v.oneCell'=true:=by
 intro v hm
 simp only [List.mem_cons,List.not_mem_nil,or_false] at hm
 rcases hm with rfl|rfl<;>rfl
theorem iM {V:View}{l:List Nd}(hb:∀x∈l,Bd x.ln){root:Int}{p:OA}{n c:Nat}(h:NS V p n c l) :
  ab prog 38 #[.agg #[.int .i64 root,.slice p n c]] V fun r V'=>(dz l root=none->r=.bool false)/\∀t,dz l root=some t->r=.bool (decide (root=rt 0 t/\l=wr 0 t)):=by
 have hl:=h.len
 subst hl
 refine nI root p l.length c V _ fun V1 l1=>(dI hb (⟨p,l.length,c,rfl,h.le l1⟩:AT V1 _ root l)).mono ?_
 rintro r V2 l2 rfl
 cases e:dz l root with
 | none=>exact ⟨_,rfl,fun _ V3 l3=>⟨fun _=>rfl,fun t ht=>by cases ht⟩,fun h=>by cases h⟩
 | some t=>
  obtain ⟨MK,hsz,-⟩:=Bu e
  have hlen:l.length<=65536:=by
   rcases Nat.lt_or_ge 65536 l.length with h|h
   ·unfold dz at e;rw [if_pos h] at e;cases e
   ·exact h
  have fin:∀b:Bool,(b=true↔Lay l root 0 t)->((some t=none->Value.bool b=.bool false)/\∀t',some t=some t'->Value.bool b=.bool (decide (root=rt 0 t'/\l=wr 0 t'))):=fun b hb=>by
   refine ⟨(fun h=>by cases h),fun t' ht=>?_⟩
   cases ht
   congr 1
   rw [Bool.eq_iff_iff,decide_eq_true_iff,hb,CT hsz]
  have hns:=h.le (l1.trans l2)
  refine ⟨_,rfl,(fun h=>by cases h),fun _=>⟨fun z V'=>∃(k:Nat)(ns:List Int)(ts:List Tr),z.1=(k:Int)/\J8 l ns ts/\(wH l ns ts k↔Lay l root 0 t)/\k+zP ts=t.size/\ns.length<=k+1/\GR 1 J7 V' z.2.1 z.2.2.1 z.2.2.2 ns.reverse,fun z=>(2*(t.size-z.1)+z.2.1).toNat,
   ⟨(0,1,1,[.int .i64 root]),by and_intros<;>first|rfl|trivial|decide,0,[root],[t],rfl,⟨MK,trivial⟩,⟨fun h=>h.1,fun h=>⟨h,trivial⟩⟩,by simp [zP],by simp,⟨rfl,Nat.le_refl _,Nat.le_refl _,row_one rfl rfl⟩⟩,?_⟩⟩
  rintro ⟨z,m,d,vs⟩ V4 l4 ⟨k,ns,ts,ez,hR,hY,hs,hk1,g⟩
  dsimp only at ez g ⊢
  subst ez
  have F1:=hns.le l4
  have gl:=g.len
  rw [List.length_reverse] at gl
  refine ⟨by trivial,fun hpos=>?_,fun hpos V6 l6=>fin true ⟨fun _=>?_,fun _=>rfl⟩⟩
  ·have hpos:0<m:=by have:=of_decide_eq_true hpos;omega
   cases ns with
   | nil=>rw [List.length_nil] at gl;omega
   | cons x ns=>
    cases ts with
    | nil=>exact hR.elim
    | cons tx ts=>
     obtain ⟨hx,hR⟩:=hR
     have hsum:zP (tx::ts)=tx.size+zP ts:=rfl
     rw [hsum] at hs
     rw [List.length_cons] at gl hk1
     have wm:i64.wrap ((m:Int)-1)=((m-1:Nat):Int):=by rw [aD (by omega)];omega
     rw [wm,Int.toNat_natCast,Nat.mul_one]
     obtain ⟨xs,hx1,hx2,hx3⟩:=g.row.at_ (m-1) (by rw [List.length_reverse,List.length_cons];omega)
     have ex:(x::ns).reverse[m-1]'(by rw [List.length_reverse,List.length_cons];omega)=x:=by
      simp only [List.reverse_cons]
      rw [List.getElem_append_right (by rw [List.length_reverse];omega)]
      simp
     rw [ex] at hx2
     have hx2:=congrArg Array.toList (Value.agg.inj hx2)
     dsimp only at hx2
     subst hx2
     have hv:=hx3 0 _ rfl
     rw [Nat.mul_one,Nat.add_zero] at hv
     have gd:GR 1 J7 V4 (m-1) d vs ns.reverse:=by
      have gr:=g.row
      rw [List.reverse_cons] at gr
      exact ⟨by rw [List.length_reverse];omega,by have:=g.le;omega,g.cap,BS gr⟩
     refine ⟨⟨by omega,by omega⟩,g.le,x,hv,⟨by omega,by have:=g.le;omega⟩,fun hneg=>?_,fun hneg=>?_⟩
     ·have hneg:x<0:=of_decide_eq_true hneg
      refine ⟨((k:Int),m-1,d,vs),by dsimp only;omega,by and_intros<;>first|rfl|trivial,k,ns,ts,rfl,hR,?_,?_,by omega,gd⟩
      ·cases tx with
       | leaf i=>exact (zx hx).symm.trans hY
       | node ln a b=>obtain ⟨k',y,e',-⟩:=hx;omega
      ·cases tx with
       | leaf i=>simp only [Tr.size] at hs;omega
       | node ln a b=>obtain ⟨k',y,e',-⟩:=hx;omega
     ·have hneg:¬x<0:=of_decide_eq_false hneg
      cases tx with
      | leaf i=>exfalso;have hx:x=(if i then -2 else -1):=hx;split at hx<;>omega
      | node ln a b=>
       obtain ⟨k',y,rfl,hy,hyl,-,ha,hb'⟩:=hx
       refine ⟨fun hne V5 l5=>fin false ⟨(fun h=>by cases h),fun hL=>?_⟩,fun heq=>?_⟩
       ·exfalso
        have hne:((k':Nat):Int)≠(k:Int):=by simpa using hne
        exact Ba hne (hY.2 hL)
       ·have heq:k'=k:=by
         have:((k':Nat):Int)=(k:Int):=by simpa using heq
         omega
        subst heq
        simp only [Tr.size] at hs
        have hk:=(List.getElem?_eq_some_iff.1 hy).1
        have w1:i64.wrap ((k':Int)+1)=((k'+1:Nat):Int):=by rw [aD (by omega)];rfl
        obtain ⟨ad,had,a6,a7⟩:=Bq F1 hy
        rw [w1,Int.toNat_natCast,had]
        have iS:=F1.Ah (show l.length≠0 by omega)
        have hr:(y.left::y.right::ns).reverse=ns.reverse++[y.right,y.left]:=by simp
        refine ⟨iS,⟨by omega,by omega⟩,rfl,y.right,⟨_,rfl,a7⟩,iS,⟨by omega,by omega⟩,rfl,y.left,⟨_,rfl,a6⟩,by omega,gd.le,gd.cap,rfl,GQ,fun sp c' k1 k2=>⟨(((k'+1:Nat):Int),m-1+2,c',_),by dsimp only;omega,by and_intros<;>first|rfl|trivial,k'+1,y.left::y.right::ns,a::b::ts,rfl,⟨ha,hb',hR⟩,(zy hy hyl).symm.trans hY,?_,by rw [List.length_cons,List.length_cons];omega,?_⟩⟩
        ·have:zP (a::b::ts)=a.size+(b.size+zP ts):=rfl
         omega
        ·rw [hr]
         have:=gd.Hd (xs:=[.int .i64 y.right]) (ys:=[.int .i64 y.left]) (a:=y.right) (b:=y.left) rfl rfl rfl rfl (by decide) k1 k2
         dsimp only
         rw [List.singleton_append,Nat.mul_one] at this
         exact this
  ·have hpos:m=0:=by have:=of_decide_eq_false hpos;omega
   cases ns with
   | cons x ns=>rw [List.length_cons] at gl;omega
   | nil=>
    cases ts with
    | cons t ts=>exact hR.elim
    | nil=>exact hY.1 trivial
end Go.Proofs.Tryz
namespace Go.Proofs.Tryz
open Go.br
set_option maxRecDepth 100000
end Go.Proofs.Tryz
namespace Go.Proofs.Tryz
open Go.br Go.dS
def H0 (V:View)(v:Value)(l:L3):Prop:=RL V v l.1 l.2.1 l.2.2
theorem H0.le {V V':View}{v:Value}{l:L3}(h:H0 V v l)(e:V.Le V'):H0 V' v l:=RL.le h e
def LL:L3:=(0,1,0)
theorem Dq:fF LL=true:=by decide
theorem pM {z:Int}(k:Nat)(hk:k≠0)(h:z.natAbs<=1):z.natAbs<2^k:=Nat.lt_of_le_of_lt h (Nat.one_lt_two_pow hk)
theorem D5 (k:Nat)(hk:k≠0):LL.1.natAbs<2^k/\LL.2.1.natAbs<2^k/\LL.2.2.natAbs<2^k:=⟨pM k hk (by decide),pM k hk (by decide),pM k hk (by decide)⟩
theorem Ak:Bd LL:=D5 1000 (by decide)
theorem uu {V:View}{v:Value}{a b c:Int}(h:RL V v a b c):∃(b1:Bool)(p1:OA)(n1 c1:Nat)(b2:Bool)(p2:OA)(n2 c2:Nat)(b3:Bool)(p3:OA)(n3 c3:Nat),v=.agg #[.bool b1,.slice p1 n1 c1,.bool b2,.slice p2 n2 c2,.bool b3,.slice p3 n3 c3]:=by
 obtain ⟨p,n,s,p',n',s',q,m,e,rfl,-⟩:=h
 exact ⟨_,_,_,_,_,_,_,_,_,_,_,_,rfl⟩
theorem sZ {V:View}{u w:Value}(hp:RP V u ((0:Int):Rat) ((0:Int):Rat))(hq:RP V w ((1:Int):Rat) ((0:Int):Rat)) :
  ab prog 50 #[u,w] V fun r V'=>∃l,r=.tuple #[l,.bool true]/\RL V' l LL.1 LL.2.1 LL.2.2:=by
 have s0:Sz 1 ((0:Int):Rat):=by unfold Sz;decide
 have s1:Sz 1 ((1:Int):Rat):=xP
 refine (iu hp hq s0 s0 s1 s0 (by omega) (by omega)).mono ?_
 have e1:(qm ((0:Int):Rat) ((0:Int):Rat) ((1:Int):Rat) ((0:Int):Rat)).1.num=0:=by decide +kernel
 have e2:(qm ((0:Int):Rat) ((0:Int):Rat) ((1:Int):Rat) ((0:Int):Rat)).2.1.num=1:=by decide +kernel
 have e3:(qm ((0:Int):Rat) ((0:Int):Rat) ((1:Int):Rat) ((0:Int):Rat)).2.2.num=0:=by decide +kernel
 rw [e1,e2,e3]
 rintro r V' _ ⟨-,h⟩
 exact h (by omega)
structure D_ (V:View) (y z:Value):Prop where
 inv:mT V 0 y
 Lb:mT V 1 z
 yE:D9 y
 zE:D9 z
theorem D_.le {V V':View}{y z:Value}(h:D_ V y z)(l:V.Le V'):D_ V' y z:=⟨h.inv.le l,h.Lb.le l,h.yE,h.zE⟩
theorem vr:IsIface .nilIface/\d_ .nilIface=true:=⟨.inl rfl,rfl⟩
theorem AT.leaf {V:View}(i:Bool):AT V (.agg #[.int .i64 (rt 0 (.leaf i)),.slice none 0 0]) (rt 0 (.leaf i)) (wr 0 (.leaf i)):=⟨_,_,_,rfl,NS.nil⟩
theorem kI {p:L3->Prop}:∀{t:Tr} {k:Nat},t.jB p->∀x∈wr k t,p x.ln
 | .leaf _,_,_,x,h=>by simp [wr] at h
 | .node l a b,k,⟨h1,h2,h3⟩,x,h=>by
  simp only [wr,List.mem_cons,List.mem_append] at h
  rcases h with rfl|h|h
  ·exact h1
  ·exact kI h2 x h
  ·exact kI h3 x h
theorem nL {V:View}{y z:Value}(hs:D_ V y z):ab prog 33 #[] V fun r V'=>r=.bool true:=by
 refine pY V _ fun V1 l1=>(hJ 0 0 (by omega) (by omega) (by omega) (by omega)).mono ?_
 rintro r V2 l2 hp
 have hp0:=hp
 obtain ⟨p1,n1,c1,p2,n2,c2,p3,n3,c3,p4,n4,c4,rfl,-⟩:=hp
 refine ⟨_,_,_,_,_,_,_,_,_,_,_,_,_,_,rfl,fun V3 l3=>(hJ 1 0 (by omega) (by omega) (by omega) (by omega)).mono ?_⟩
 rintro r V4 l4 hq
 have hq0:=hq
 obtain ⟨q1,m1,d1,q2,m2,d2,q3,m3,d3,q4,m4,d4,rfl,-⟩:=hq
 refine ⟨_,_,_,_,_,_,_,_,_,_,_,_,_,_,rfl,fun V5 l5=>(sZ (hp0.le (l3.trans (l4.trans l5))) (hq0.le l5)).mono ?_⟩
 rintro r V6 l6 ⟨l,rfl,hl⟩
 obtain ⟨b1,u1,v1,w1,b2,u2,v2,w2,b3,u3,v3,w3,rfl⟩:=(uu hl)
 have zv:=l1.trans (l2.trans (l3.trans (l4.trans (l5.trans l6))))
 refine ⟨_,_,_,_,_,_,_,_,_,_,_,_,_,rfl,fun V7 l7=>(mu (-2) (hs.inv.le (zv.trans l7))).mono ?_⟩
 rintro r V8 l8 ⟨o,e,rfl,ho⟩
 rw [if_pos (by omega)] at ho
 obtain ⟨rfl,rfl⟩:=ho
 refine ⟨_,_,_,_,_,rfl,fun V9 l9=>(mu (-1) (hs.inv.le (zv.trans (l7.trans (l8.trans l9))))).mono ?_⟩
 rintro r iC l10 ⟨o,e,rfl,ho⟩
 rw [if_pos (by omega)] at ho
 obtain ⟨rfl,rfl⟩:=ho
 have lM:=zv.trans (l7.trans (l8.trans (l9.trans l10)))
 obtain ⟨t1,t2,t3⟩:=Ak.ag
 refine ⟨_,_,_,_,_,rfl,fun mf cB=>(mr (hl.le (l7.trans (l8.trans (l9.trans (l10.trans cB))))) (by omega) (by omega) (by omega)).mono ?_⟩
 rintro r mg cX hm
 obtain ⟨b1,u1,v1,w1,b2,u2,v2,w2,b3,u3,v3,w3,rfl⟩:=(uu hm)
 have o1:dz (wr 0 (.leaf true)) (rt 0 (.leaf true))=some (.leaf true):=xz trivial (by simp [Tr.size])
 have o2:dz (wr 0 (.leaf false)) (rt 0 (.leaf false))=some (.leaf false):=xz trivial (by simp [Tr.size])
 refine ⟨_,_,_,_,_,_,_,_,_,_,_,_,rfl,fun nW cZ=>(uP (x:=LL) (hm.le cZ) Ak (AT.leaf true) (AT.leaf false) (fun x h=>by simp [wr] at h) (fun x h=>by simp [wr] at h) (hs.inv.le (lM.trans (cB.trans (cX.trans cZ)))) (hs.Lb.le (lM.trans (cB.trans (cX.trans cZ))))).mono ?_⟩
 rintro r mU dL ⟨o,e,rfl,-,ho⟩
 rw [o1,o2] at ho
 have ho:=ho (.node LL (.leaf true) (.leaf false)) (by unfold iQ;rw [Dq];rfl)
 rw [if_neg (by simp [Tr.size])] at ho
 obtain ⟨hat,rfl⟩:=ho
 have Iu:=hat
 obtain ⟨q,n,c,rfl,hns⟩:=hat
 have hn:n=1:=hns.len
 subst hn
 obtain ⟨_,_,_,_,_,_,_,_,_,_,_,_,a,ha,-,-,-,-,-,-,a6,a7,-⟩:=hns.rd (k:=0) (d:=⟨LL,-2,-1⟩) rfl
 have ha:af q 0=some a:=by simpa using ha
 refine ⟨_,_,_,_,_,rfl,vr.1,fun _=>⟨vr.1,fun _=>⟨vr.1,fun _=>⟨fun _=>⟨fun _=>⟨hns.Ah (by omega),⟨by omega,by omega⟩,by rw [ha];rfl,-2,⟨a.add 6,by rw [ha];rfl,a6⟩,fun _=>⟨hns.Ah (by omega),⟨by omega,by omega⟩,by rw [ha];rfl,-1,⟨a.add 7,by rw [ha];rfl,a7⟩,fun _ mh eC=>(dI ?_ (Iu.le eC)).mono ?_,(fun h=>by simp at h)⟩,(fun h=>by simp at h)⟩,(fun h=>by simp at h)⟩,(fun h=>by simp [rt] at h)⟩,fun h=>by rw [vr.2] at h;cases h⟩,fun h=>by rw [vr.2] at h;cases h⟩,fun h=>by rw [vr.2] at h;cases h⟩
 ·exact kI ⟨Ak,trivial,trivial⟩
 ·rintro r nX dM rfl
  refine ⟨_,rfl,fun nJ dR=>?_⟩
  rw [xz (t:=.node LL (.leaf true) (.leaf false)) ⟨Dq,trivial,trivial⟩ (by simp [Tr.size])]
  rfl
def ch:Nat->Tr
 | 0=>.leaf false
 | m+1=>.node LL (.leaf true) (ch m)
theorem BU {V:View}{t:Tr}{p:OA}(h:RW V p t):p.isSome=true:=by
 cases t with
 | leaf i=>obtain ⟨b,c2,c3,c4,c5,c6,c7,c8,c9,rfl,hb⟩:=h;rfl
 | node l x y=>obtain ⟨b,i,b1,p1,n1,c1,b2,p2,n2,c2,b3,p3,n3,c3,pl,pr,rfl,-⟩:=h;rfl
theorem Cw:∀(t:Tr) {V:View} {p:OA} {lb:Nat} {n c:Nat} {vs:List Value} {l:List Nd},RW V p t->t.jB Ds->n=l.length ->
  (vs≠[]->V.w.heap[lb]?=some (.cells vs.toArray 76 (0,0)))->(vs≠[]->V.X lb)->n<=c->c*8<=vs.length->NR V vs l->n+t.size<=1000000 ->
  ab prog 48 #[.pointer p,.slice (mA lb c) n c] V fun r V'=>∃(bm:Nat)(vm:List Value)(c':Nat),(vm≠[]->V'.w.heap[bm]?=some (.cells vm.toArray 76 (0,0)))/\(vm≠[]->V.w.heap.size<=bm\/(vs≠[]/\bm=lb)) /\
   r=.tuple #[.slice (mA bm c') (n+t.size) c',.int .i64 (rt n t)]/\n+t.size<=c'/\c'*8<=vm.length/\NR (V'.bh (vm≠[]) bm) vm (l++wr n t)/\(t.size=0->c'=c):=by
 intro t
 induction t with
 | leaf i=>
  intro V p lb n c vs l hp _ hn hv hxv hnc hcv hnr hsz
  have hs:=BU hp
  obtain ⟨b,c2,c3,c4,c5,c6,c7,c8,c9,rfl,hb⟩:=hp
  have fin:∀(V3:View)(bk:Nat)(x:Int),V.Le (V3.bh (vs≠[]) bk)->(vs≠[]->V3.w.heap[bk]?=some (.cells vs.toArray 76 (0,0))) ->
    (vs≠[]->V.w.heap.size<=bk\/(vs≠[]/\bk=lb)\/False)->x=rt n (.leaf i)->∃(bm:Nat)(vm:List Value)(c':Nat),(vm≠[]->V3.w.heap[bm]?=some (.cells vm.toArray 76 (0,0)))/\(vm≠[]->V.w.heap.size<=bm\/(vs≠[]/\bm=lb)) /\
   Value.tuple #[.slice (mA bk c) n c,.int .i64 x]=.tuple #[.slice (mA bm c') (n+(Tr.leaf i).size) c',.int .i64 (rt n (.leaf i))]/\n+(Tr.leaf i).size<=c'/\c'*8<=vm.length/\NR (V3.bh (vm≠[]) bm) vm (l++wr n (.leaf i))/\((Tr.leaf i).size=0->c'=c):=by
   intro V3 bk x hle e3 e4 hx
   refine ⟨bk,vs,c,e3,fun h=>?_,by rw [hx];rfl,hnc,hcv,?_,fun _=>rfl⟩
   ·rcases e4 h with h|h|h
    ·exact .inl h
    ·exact .inr h
    ·exact h.elim
   ·simp only [wr,List.append_nil]
    exact hnr.le hle
  refine jh _ lb n c vs V _ hv hxv ⟨hs,hs,true,um hb 0 rfl,fun _=>⟨hs,hs,i,um hb 1 rfl,fun hi V1 bk a1 a2 a3=>fin V1 bk _ a1 a2 a3 (by subst hi;rfl),fun hi V2 bk a1 a2 a3=>fin V2 bk _ a1 a2 a3 (by subst hi;rfl)⟩,fun h=>by cases h⟩
 | node ln x y Ag ihy=>
  intro V p lb n c vs l hp hall hn hv hxv hnc hcv hnr hsz
  have hs:=BU hp
  simp only [Tr.size] at hsz
  obtain ⟨⟨-,hbd⟩,hax,Iv⟩:=hall
  obtain ⟨b,i,b1,p1,n1,c1,b2,p2,n2,c2,b3,p3,n3,c3,pl,pr,rfl,hb,hl,hx,hy⟩:=hp
  have hat:∀j v,([.bool b1,.slice p1 n1 c1,.bool b2,.slice p2 n2 c2,.bool b3,.slice p3 n3 c3]:List Value)[j]?=some v->V.at (((⟨b,2,none⟩:Addr)).add j) v:=by
   intro j v hv
   have hj:j<6:=by
    rcases Nat.lt_or_ge j 6 with hj|hj
    ·exact hj
    ·rw [List.getElem?_eq_none (by simpa using hj)] at hv;cases hv
   have h2:(⟨b,2,none⟩:Addr)=(⟨b,0,none⟩:Addr).add 2:=by rw [add_zero']
   rw [h2,An,add_zero']
   refine bW (xs:=[_,_,_,_,_,_,_,_,_,_]) hb ?_
   match j,hj,hv with
   | 0,_,hv=>exact hv
   | 1,_,hv=>exact hv
   | 2,_,hv=>exact hv
   | 3,_,hv=>exact hv
   | 4,_,hv=>exact hv
   | 5,_,hv=>exact hv
  obtain ⟨t1,t2,t3⟩:=hbd.ag
  refine jh _ lb n c vs V _ hv hxv ⟨hs,hs,false,um hb 0 rfl,(fun h=>by cases h),fun _=>⟨hs,hs,b1,p1,n1,c1,b2,p2,n2,c2,b3,p3,n3,c3,⟨b,2,none⟩,by simp [af,add_zero'],hat 0 _ rfl,hat 1 _ rfl,hat 2 _ rfl,hat 3 _ rfl,hat 4 _ rfl,hat 5 _ rfl,fun V3 l3=>(mr (hl.le l3) (by omega) (by omega) (by omega)).mono ?_⟩⟩
  rintro r V4 l4 FP
  have Em:=FP
  obtain ⟨d1,q1,m1,e1,d2,q2,m2,e2,d3,q3,m3,e3,rfl⟩:=lk FP
  have xp:=l3.trans l4
  refine ⟨_,_,_,_,_,_,_,_,_,_,_,_,rfl,by omega,hnc,hcv,rfl,by intro v hv;simp at hv;rcases hv with rfl|rfl|rfl|rfl|rfl|rfl|rfl|rfl<;>rfl,fun sp c' g1 g2=>?_⟩
  have hb4:=xp _ _ hb
  refine ⟨hs,hs,pl,um hb4 8 rfl,fun V5 l5 bk1 f1 f2=>?_⟩
  have hpush:=NR.push (sp:=sp) (x:=0) (y:=0) (hnr.le xp) (by omega) (ln:=ln) Em
  rw [←hn] at hpush
  generalize hrow:vs.take (n*8)++([_,_,_,_,_,_,_,_]:List Value)++sp=row at f1 f2 hpush ⊢
  have hrl:row.length=n*8+8+sp.length:=by
   rw [←hrow];simp only [List.length_append,List.length_take,List.length_cons,List.length_nil];omega
  have Ez:row≠[]:=fun e=>by rw [e] at hrl;simp only [List.length_nil] at hrl;omega
  have EJ:=xp.trans l5
  have i1:=Ag (V:=V5.aH [vb row V5.w.heap.size bk1]) (p:=pl) (lb:=bk1) (n:=n+1) (c:=c') (vs:=row) (l:=l++[⟨ln,0,0⟩]) (RW.le (V:=V) (V':=V5.aH _) (fun b o h=>EJ b o h) hx) hax (by simp [hn]) f1 (fun h=>⟨by simp [yP h],f2 h⟩) g1 (by omega) (NR.le (V:=V4) (V':=V5.aH _) hpush fun b o h=>l5 b o h) (by omega)
  refine i1.mono ?_
  rintro r V6 l6 ⟨bm,vm,c1',a1,a2,rfl,a5,a6,a7,-⟩
  have M5:V5.Le V6:=fun b o h=>l6 b o h
  have K9:V5.Le (V6.shut.bh (vm≠[]) bm):=kH (V':=V5) M5 (View.Le.refl V5) fun h=>(a2 h).imp id fun h'=>by rw [h'.2];exact f2 Ez
  refine ⟨bm,vm,a1,a2,none,_,_,_,rfl,hs,hs,pr,um ((EJ.trans K9) _ _ hb) 9 rfl,fun V7 l7 bk2 d1 d2=>?_⟩
  have Gb:vm≠[]:=fun e=>by rw [e] at a6;simp at a6;omega
  have gF:V.Le V7:=(EJ.trans K9).trans l7
  have i2:=ihy (V:=V7.aH [vb vm V7.w.heap.size bk2]) (p:=pr) (lb:=bk2) (n:=n+1+x.size) (c:=c1') (vs:=vm) (l:=l++[⟨ln,0,0⟩]++wr (n+1) x) (RW.le (V:=V) (V':=V7.aH _) (fun b o h=>gF b o h) hy) Iv (by simp [hn,aW];omega) d1 (fun h=>⟨by simp [yP h],d2 h⟩) a5 a6 (NR.le (V:=V6.bh (vm≠[]) bm) (V':=V7.aH _) a7 fun b o h=>l7 b o h) (by omega)
  refine i2.mono ?_
  rintro r V8 l8 ⟨bn,vn,c2',b1',b2',rfl,b5,b6,b7,-⟩
  have hlen:n*8+8<=vn.length:=by omega
  simp only [Int.toNat_natCast]
  refine ⟨bn,vn,b1',b2',none,_,_,_,rfl,⟨by omega,by omega⟩,b5,by omega,⟨by omega,by omega⟩,b5,by rw [List.length_set];omega,fun V9 E5 u1 u4 u5=>?_⟩
  have hfin:=NR.kids (V:=V8.bh (vn≠[]) bn) (l:=l) (r:=wr (n+1) x++wr (n+1+x.size) y) (ln:=ln) (u:=0) (v:=0) (x:=rt (n+1) x) (y:=rt (n+1+x.size) y) (by simpa using b7)
  rw [←hn] at hfin
  refine ⟨E5,_,c2',u4,fun h=>?_,by rw [show n+(Tr.node ln x y).size=n+1+x.size+y.size from by simp only [Tr.size];omega];rfl,by simp only [Tr.size];omega,by simp only [List.length_set];omega,?_,fun h=>by simp only [Tr.size] at h;omega⟩
  ·rcases u5 h with h|h|h
   ·exact .inl h
   ·exact .inr h
   ·exact h.elim
  ·simp only [wr]
   exact NR.le (V:=V8.bh (vn≠[]) bn) hfin fun b o h=>u1 b o h
theorem iK {V:View}{p:OA}{t:Tr}(h:RW V p t)(ha:t.jB Ds)(hs:t.size<=1000000) :
  ab prog 14 #[.pointer p] V fun r V'=>AT V' r (rt 0 t) (wr 0 t)/\(t.size=0->r=.agg #[.int .i64 (rt 0 t),.slice none 0 0]):=by
 refine qg p V _ fun V1 l1=>?_
 refine ab.DY (Cw t (V:=V1) (lb:=0) (vs:=[]) (l:=[]) (n:=0) (c:=0) (h.le l1) ha rfl (fun h=>absurd rfl h) (fun h=>absurd rfl h) (Nat.le_refl _) (Nat.le_refl _) (fun i d hd=>by simp at hd) (by omega)) ?_
 rintro r V2 l2 hH ⟨bm,vm,c',a1,a2,rfl,a5,a6,a7,a8⟩
 refine ⟨bm,vm,a1,fun h=>(a2 h).imp id fun h'=>absurd rfl h'.1,none,_,_,_,rfl,fun V3 l3 bk hb=>?_⟩
 simp only [List.nil_append,Nat.zero_add] at a7 a5 ⊢
 have:=NS.ofRow (V:=V3) (b:=bk) (c:=c') (vm:=vm) (l:=wr 0 t) (ty:=76) hb (by rw [aW];exact a5) (a7.le fun b o h=>l3 b o h)
 rw [aW] at this
 refine ⟨⟨_,_,_,rfl,this⟩,fun h0=>?_⟩
 rw [a8 h0,h0]
 rfl
theorem qC {V:View}{p:OA}{t:Tr}(h:RW V p t)(ha:t.jB Ds)(hs:t.size<=1000000) :
  ab prog 14 #[.pointer p] V fun r V'=>AT V' r (rt 0 t) (wr 0 t):=(iK h ha hs).mono fun _ _ _ h=>h.1
theorem nM {V:View}(i:Int)(n b:Nat)(hn:0<n)(hn2:n<=1000000)(hb:b<n)(hi:i<=1000000) :
  ab prog 95 #[.int .i64 i,.int .i64 (n:Int),.int .i64 (b:Int)] V fun r V'=>r=.int .i64 (mv n b i):=by
 refine qT i n b V _ ⟨fun g V1 l1=>?_,fun g=>⟨by omega,fun V2 l2=>?_⟩⟩
 ·have g:=of_decide_eq_true g
  unfold mv;rw [if_pos g]
 ·have g:¬i<0:=of_decide_eq_false g
  obtain ⟨k,rfl⟩:∃k:Nat,i=k:=⟨i.toNat,by omega⟩
  have e1:i64.wrap ((k:Int)+b)=((k+b:Nat):Int):=by rw [aD (by omega)];omega
  have e2:i64.wrap ((n:Int)-1)=(n:Int)-1:=aD (by omega)
  have e3:(((k+b:Nat):Int)).tmod (n:Int)=(((k+b)%n:Nat):Int):=by rw [Int.tmod_eq_emod_of_nonneg (by omega)];rfl
  have hm:=Nat.mod_lt (k+b) hn
  rw [e1,e2,e3,aD (by omega)]
  unfold mv
  rw [if_neg g,Int.toNat_natCast]
  unfold Aj
  congr 1
  omega
def sI (V:View)(vs:List Value)(i:Nat)(d:Nd):Prop:=∃(b1:Bool)(p1:OA)(n1 c1:Nat)(b2:Bool)(p2:OA)(n2 c2:Nat)(b3:Bool)(p3:OA)(n3 c3:Nat),
 (∀j v,([.bool b1,.slice p1 n1 c1,.bool b2,.slice p2 n2 c2,.bool b3,.slice p3 n3 c3,.int .i64 d.left,.int .i64 d.right]:List Value)[j]?=some v->vs[i*8+j]?=some v) /\
 Aa V (.agg #[.bool b1,.slice p1 n1 c1,.bool b2,.slice p2 n2 c2,.bool b3,.slice p3 n3 c3]) d.ln
theorem sI.le {V V':View}{vs:List Value}{i:Nat}{d:Nd}(h:sI V vs i d)(hl:V.Le V'):sI V' vs i d:=by
 obtain ⟨b1,p1,n1,c1,b2,p2,n2,c2,b3,p3,n3,c3,h1,h2⟩:=h
 exact ⟨b1,p1,n1,c1,b2,p2,n2,c2,b3,p3,n3,c3,h1,h2.le hl⟩
theorem C7 {vs xs:List Value}{k j:Nat}(hx:xs.length=8)(h:k*8+8<=vs.length)(hj:j<8):(vs.take (k*8)++xs++vs.drop (k*8+8))[k*8+j]?=xs[j]?:=by
 have ht:(vs.take (k*8)).length=k*8:=by rw [List.length_take];omega
 rw [List.append_assoc,List.getElem?_append_right (by omega),ht,Nat.add_sub_cancel_left,List.getElem?_append_left (by omega)]
theorem BE {vs xs:List Value}{k i:Nat}(hx:xs.length=8)(h:k*8+8<=vs.length)(hi:i<k*8\/k*8+8<=i):(vs.take (k*8)++xs++vs.drop (k*8+8))[i]?=vs[i]?:=by
 have ht:(vs.take (k*8)).length=k*8:=by rw [List.length_take];omega
 rcases hi with hi|hi
 ·rw [List.append_assoc,List.getElem?_append_left (by omega),List.getElem?_take,if_pos hi]
 ·rw [List.getElem?_append_right (by rw [List.length_append];omega),List.length_append,ht,hx,List.getElem?_drop]
  congr 1
  omega
theorem Lc {a b c d e f g h v:Value}{j:Nat}(hv:([a,b,c,d,e,f,g,h]:List Value)[j]?=some v):j<8:=by
 rcases Nat.lt_or_ge j 8 with hj|hj
 ·exact hj
 ·rw [List.getElem?_eq_none (by simpa using hj)] at hv;cases hv
theorem sI.out {V:View}{vs xs:List Value}{k i:Nat}{d:Nd}(h:sI V vs i d)(hx:xs.length=8)(hk:k*8+8<=vs.length)(hi:i≠k):sI V (vs.take (k*8)++xs++vs.drop (k*8+8)) i d:=by
 obtain ⟨b1,p1,n1,c1,b2,p2,n2,c2,b3,p3,n3,c3,h1,h2⟩:=h
 refine ⟨b1,p1,n1,c1,b2,p2,n2,c2,b3,p3,n3,c3,fun j v hv=>?_,h2⟩
 have:=Lc hv
 rw [BE hx hk (by omega)]
 exact h1 j v hv
def vm (n b m:Nat):Nat:=(n-1-m+(n-b))%n
theorem Gx {n b m:Nat}(hb:b<n)(hm:m<n):Aj n b (vm n b m)=m:=by
 unfold vm Aj
 rw [Nat.mod_add_mod,show n-1-m+(n-b)+b=n-1-m+n from by omega,Nat.add_mod_right,Nat.mod_eq_of_lt (by omega)]
 omega
theorem xh {V V':View}{b:Nat}{P:Prop}(h:V.Le (V'.bh True b)):V.Le (V'.bh P b):=fun x o hx=>
 ⟨fun hh=>(h x o hx).1 (hh.imp id fun e=>⟨trivial,e.2⟩),(h x o hx).2⟩
theorem wP {V:View}{v:Value}{root:Int}{l:List Nd}(h:AT V v root l)(hl:l.length<=1000000)(hr:root<=1000000)(hc:∀d∈l,d.left<=1000000/\d.right<=1000000)(h0:l=[]->v=.agg #[.int .i64 root,.slice none 0 0])(rJ:Int) :
  ab prog 41 #[v,.int .i64 rJ] V fun r V'=>∃(bm:Nat)(vs:List Value),(vs≠[]->V'.w.heap[bm]?=some (.cells vs.toArray 76 (0,0)))/\(vs≠[]->V.w.heap.size<=bm) /\
   ∃root':Int,r=.agg #[.int .i64 root',.slice (mA bm l.length) l.length l.length]/\vs.length=l.length*8/\∀i,i<l.length->∃d,sI (V'.bh (vs≠[]) bm) vs i d:=by
 obtain ⟨q,n,c,rfl,hns⟩:=h
 have hn:n=l.length:=hns.len
 subst hn
 refine lZ root q l.length c rJ V _ ⟨fun g V1 l1=>?_,fun g=>?_⟩
 ·have g:l.length=0:=by rw [beq_iff_eq] at g;omega
  have e:=List.eq_nil_of_length_eq_zero g
  subst e
  exact ⟨0,[],fun h=>absurd rfl h,fun h=>absurd rfl h,root,h0 rfl,rfl,fun i hi=>absurd hi (Nat.not_lt_zero i)⟩
 have g:l.length≠0:=by rw [beq_eq_false_iff_ne] at g;omega
 clear h0
 have hpos:0<l.length:=by omega
 obtain ⟨b,hb,hbn⟩:∃b:Nat,(i64.wrap (rJ.tmod (l.length:Int)+(l.length:Int))).tmod (l.length:Int)=(b:Int)/\b<l.length:=by
  have m1:(rJ.tmod (l.length:Int)).natAbs<l.length:=by rw [Int.natAbs_tmod,Int.natAbs_natCast];exact Nat.mod_lt _ hpos
  rw [aD (by omega),Int.tmod_eq_emod_of_nonneg (by omega)]
  have m2:=Int.emod_lt_of_pos (rJ.tmod (l.length:Int)+(l.length:Int)) (show (0:Int)<(l.length:Int) by omega)
  have m3:=Int.emod_nonneg (rJ.tmod (l.length:Int)+(l.length:Int)) (show (l.length:Int)≠0 by omega)
  exact ⟨((rJ.tmod (l.length:Int)+(l.length:Int))%(l.length:Int)).toNat,by omega,by omega⟩
 rw [hb,Int.toNat_natCast]
 generalize hN:l.length=N at *
 refine ⟨by omega,by omega,by omega,by omega,by omega,fun V2 l2=>(nM root N b hpos hl hbn hr).mono ?_⟩
 rintro r V3 l3 rfl
 refine ⟨_,rfl,fun (z:Int×List Value) V'=>∃i:Nat,z.1=i/\i<=N/\z.2.length=N*8/\∀j d,j<i->l[j]?=some d->sI V' z.2 (Aj N b j) (Nf N b d),fun z=>(N-z.1).toNat,⟨(0,km N [.bool false,.slice none 0 0,.bool false,.slice none 0 0,.bool false,.slice none 0 0,.int .i64 0,.int .i64 0]),by (try dsimp only);and_intros<;>trivial,0,rfl,by omega,?_,fun j d hj=>by omega⟩,?_⟩
 ·dsimp only
  rw [jw,List.length_flatten,List.map_replicate,List.sum_replicate_nat];rfl
 rintro ⟨_,vs⟩ V4 l4 ⟨i,rfl,hi,hlen,hrow⟩
 dsimp only at hlen hrow ⊢
 refine ⟨rfl,fun g=>?_,fun g mf bk u1 u2 u3=>?_⟩
 ·have g:i<N:=by have:=of_decide_eq_true g;omega
  have hget:l[i]?=some (l[i]'(by omega)):=List.getElem?_eq_getElem (by omega)
  generalize l[i]'(by omega)=d at hget
  obtain ⟨b1,p1,n1,c1,b2,p2,n2,c2,b3,p3,n3,c3,a,ha,a0,a1,a2,a3,a4,a5,a6,a7,hL⟩:=(hns.le (l2.trans (l3.trans l4))).rd hget
  obtain ⟨hc1,hc2⟩:=hc d (List.mem_of_getElem? hget)
  have hi1:i64.wrap ((i:Int)+1)=((i+1:Nat):Int):=by rw [aD (by omega)];omega
  rw [Int.toNat_natCast,hi1]
  refine ⟨hns.Ah (by omega),⟨by omega,by omega⟩,b1,p1,n1,c1,b2,p2,n2,c2,b3,p3,n3,c3,d.left,d.right,a,ha,a0,a1,a2,a3,a4,a5,a6,a7,fun V5 l5=>(nM (i:Int) N b hpos hl hbn (by omega)).mono ?_⟩
  rintro r V6 l6 rfl
  refine ⟨_,rfl,fun V7 l7=>(nM d.left N b hpos hl hbn hc1).mono ?_⟩
  rintro r V8 l8 rfl
  refine ⟨_,rfl,fun V9 l9=>(nM d.right N b hpos hl hbn hc2).mono ?_⟩
  rintro r iC l10 rfl
  have ME:mv N b (i:Int)=((Aj N b i:Nat):Int):=by unfold mv;rw [if_neg (by omega),Int.toNat_natCast]
  have hlt:=EN (b:=b) (i:=i) hpos
  rw [ME,Int.toNat_natCast]
  have Gn:=l5.trans (l6.trans (l7.trans (l8.trans (l9.trans l10))))
  refine ⟨_,rfl,⟨by omega,by omega⟩,by omega,⟨(((i+1:Nat):Int),cq vs (0+Aj N b i*8) [.bool b1,.slice p1 n1 c1,.bool b2,.slice p2 n2 c2,.bool b3,.slice p3 n3 c3,.int .i64 (mv N b d.left),.int .i64 (mv N b d.right)]),by dsimp only;omega,by (try dsimp only);and_intros<;>trivial,i+1,rfl,by omega,?_,?_⟩⟩
  ·dsimp only
   rw [eg (by simp only [List.length_cons,List.length_nil];omega)]
   simp only [List.length_append,List.length_take,List.length_drop,List.length_cons,List.length_nil]
   omega
  ·dsimp only
   intro j d' hj hd'
   rw [eg (by simp only [List.length_cons,List.length_nil];omega),Nat.zero_add]
   by_cases hji:j=i
   ·subst hji
    rw [hget] at hd'
    cases hd'
    exact ⟨b1,p1,n1,c1,b2,p2,n2,c2,b3,p3,n3,c3,fun k v hv=>(C7 rfl (by omega) (Lc hv)).trans hv,hL.le Gn⟩
   ·refine ((hrow j d' (by omega) hd').le Gn).out rfl (by omega) fun e=>hji ?_
    exact CX (by omega) g e
 ·have g:i=N:=by have:=of_decide_eq_false g;omega
  subst g
  refine ⟨bk,vs,fun _=>u2,fun _=>u3.elim id False.elim,_,by rw [mA,if_neg (by omega)],hlen,fun m hm=>?_⟩
  have hvl:vm i b m<l.length:=by rw [hN];exact Nat.mod_lt _ (by omega)
  have:=(hrow (vm i b m) _ (by omega) (List.getElem?_eq_getElem hvl)).le (xh (P:=vs≠[]) u1)
  rw [Gx hbn hm] at this
  exact ⟨_,this⟩
theorem kx {V : View}{v w : Value}{r1 r2 : Int}{l1 l2 : List Nd}(h1 : AT V v r1 l1)(h2 : AT V w r2 l2)(hb : ∀ x∈l1, Bd x.ln)(hk1 : ∀ x∈l1, fF x.ln = true)(hk2 : ∀ x∈l2, fF x.ln = true)(hlen : l1.length≤1000000) :
    ab prog 40 #[v, w] V fun r V' => r = .bool (decide (r1 = r2 ∧ l1 = l2)) := by
  obtain ⟨q1, n1, c1, rfl, hs1⟩ := h1
  obtain ⟨q2, n2, c2, rfl, hs2⟩ := h2
  have e1 : n1 = l1.length := hs1.len
  have e2 : n2 = l2.length := hs2.len
  subst e1 e2
  refine re r1 q1 l1.length c1 r2 q2 l2.length c2 V _ ⟨fun g V1 k1 => ?_, fun g => ⟨fun g2 V2 k2 => ?_, fun g2 => ?_⟩⟩
  · have g : r1 ≠ r2 := by simpa using g
    rw [decide_eq_false (fun h => g h.1)]
  · have g2 : l1.length ≠ l2.length := by rw [bne_iff_ne] at g2;omega
    rw [decide_eq_false (fun h => g2 (by rw [h.2]))]
  have g : r1 = r2 := by simpa using g
  have g2 : l1.length = l2.length := by have : ((l1.length : Nat) : Int) = (l2.length : Nat) := by simpa using g2
                                        omega
  refine ⟨fun z _ => ∃ i : Nat, z = i ∧ i≤l1.length ∧ l1.take i = l2.take i, fun z => (l1.length-z).toNat, ⟨0, by (try dsimp only);and_intros<;>trivial, 0, rfl, by omega, by simp⟩, ?_⟩
  rintro _ V3 k3 ⟨i, rfl, hi, ht⟩
  refine ⟨rfl, fun g3 => ?_, fun g3 V9 k9 => ?_⟩
  · have g3 : i<l1.length := by have := of_decide_eq_true g3;omega
    have hg1 : l1[i]? = some (l1[i]'(by omega)) := List.getElem?_eq_getElem (by omega)
    have hg2 : l2[i]? = some (l2[i]'(by omega)) := List.getElem?_eq_getElem (by omega)
    generalize l1[i]'(by omega) = d at hg1
    generalize l2[i]'(by omega) = d' at hg2
    obtain ⟨b1, p1, m1, f1, b2, p2, m2, f2, b3, p3, m3, f3, a, ha, a0, a1, a2, a3, a4, a5, a6, a7, hL⟩ := (hs1.le k3).rd hg1
    obtain ⟨b1', Jh, M_, Il, b2', Jj, Na, f2', b3', Jk, Nb, f3', a', ha', a0', a1', Mb, a3', a4', Mc, a6', Md, hL'⟩ := (hs2.le k3).rd hg2
    have hne : d ≠ d' → l1 ≠ l2 := fun h e => h (by rw [e, hg2] at hg1;exact (Option.some.inj hg1).symm)
    obtain ⟨t1, t2, t3⟩ := (hb d (List.mem_of_getElem? hg1)).ag
    have hi1 : IntKind.i64.wrap ((i : Int)+1) = ((i+1 : Nat) : Int) := by rw [aD (by omega)];omega
    rw [Int.toNat_natCast, hi1]
    refine ⟨hs1.Ah (by omega), ⟨by omega, by omega⟩, b1, p1, m1, f1, b2, p2, m2, f2, b3, p3, m3, f3, d.left, d.right, a, ha, a0, a1, a2, a3, a4, a5, a6, a7, hs2.Ah (by omega), ⟨by omega, by omega⟩, b1', Jh, M_, Il, b2', Jj, Na, f2', b3', Jk, Nb, f3', d'.left, d'.right, a', ha', a0', a1', Mb, a3', a4', Mc, a6', Md, fun g4 V4 k4 => ?_, fun g4 => ⟨fun g5 V5 k5 => ?_, fun g5 V6 k6 => (qB ((hL.ok (hk1 d (List.mem_of_getElem? hg1))).le k6) ((hL'.ok (hk2 d' (List.mem_of_getElem? hg2))).le k6) (by omega) (by omega) (by omega)).mono ?_⟩⟩
    · have g4 : d.left ≠ d'.left := by simpa using g4
      rw [decide_eq_false (fun h => hne (fun e => g4 (by rw [e])) h.2)]
    · have g5 : d.right ≠ d'.right := by simpa using g5
      rw [decide_eq_false (fun h => hne (fun e => g5 (by rw [e])) h.2)]
    · rintro r V7 k7 rfl
      have h4 : d.left = d'.left := by simpa using g4
      have h5 : d.right = d'.right := by simpa using g5
      refine ⟨_, rfl, fun g6 V8 k8 => ?_, fun g6 => ⟨((i+1 : Nat) : Int), by dsimp only;omega, by and_intros<;>trivial, i+1, rfl, by omega, ?_⟩⟩
      · have g6 : ¬(d.ln.1 = d'.ln.1 ∧ d.ln.2.1 = d'.ln.2.1 ∧ d.ln.2.2 = d'.ln.2.2) := by rw [Bool.not_eq_true'] at g6;exact of_decide_eq_false g6
        rw [decide_eq_false (fun h => hne (fun e => g6 (by rw [e];exact ⟨rfl, rfl, rfl⟩)) h.2)]
      · have h6 : d.ln.1 = d'.ln.1 ∧ d.ln.2.1 = d'.ln.2.1 ∧ d.ln.2.2 = d'.ln.2.2 := by rw [Bool.not_eq_false'] at g6;exact of_decide_eq_true g6
        clear g4 g5 g6
        have hd : d = d' := by
          obtain ⟨⟨x1, x2, x3⟩, y1, y2⟩ := d
          obtain ⟨⟨u1, u2, u3⟩, w1, w2⟩ := d'
          dsimp only at h4 h5 h6
          obtain ⟨rfl, rfl, rfl⟩ := h6
          subst h4 h5
          rfl
        rw [List.take_add_one, List.take_add_one, ht, hg1, hg2, hd]
  · have g3 : i = l1.length := by have := of_decide_eq_false g3;omega
    subst g3
    rw [List.take_of_length_le (Nat.le_refl _), List.take_of_length_le (by omega)] at ht
    rw [decide_eq_true ⟨g, ht⟩]
def yw (V:View):View:=⟨V.w,fun b=>b<V.w.heap.size,fun _=>False,fun _ h=>h,fun _ h=>h.elim⟩
theorem wK {f:FuncId}{args:Array Value}{V:View}{o:Obj}(h:ab prog f args (yw V) fun r V'=>∃bk,r=.pointer (some ⟨bk,0,none⟩)/\V'.bf bk o) :
  ab prog f args V fun r V'=>∃bk,r=.pointer (some ⟨bk,0,none⟩)/\V.w.heap.size<=bk/\V'.bf bk o:=
 ⟨h.1,h.2.mono fun _ _ ⟨_,he,hx,bk,hr,hb⟩=>⟨_,he,⟨hx.size,fun b hb _=>hx.bf b hb (fun h=>h),hx.os,hx.tape,hx.out⟩,bk,hr,Nat.le_of_not_lt hb.1,fun hh=>hb.1 (V.hH bk hh),hb.2⟩⟩
theorem uO {V:View}{lp:OA}{ln lc:Nat}(hc:ln<=lc) :
  ab prog 10 #[.slice lp ln lc] V fun r V'=>∃bk,r=.pointer (some ⟨bk,0,none⟩)/\V.w.heap.size<=bk/\V'.bf bk (.cells #[.slice lp (min ln 400) lc,.int .i64 0] 95 (0,0)):=by
 refine wK (uc lp ln lc (yw V) _ ?_)
 have e:bC (ln:Int) 400=((min ln 400:Nat):Int):=by
  unfold bC
  simp only [Nat.min_def]
  split<;>split<;>omega
 rw [e,Int.toNat_natCast]
 have:=Nat.min_le_left ln 400
 exact ⟨⟨by omega,by omega⟩,fun V1 l1 bk hb=>⟨bk,rfl,hb⟩⟩
theorem Bb {V1 V2 V3:View}{bk:Nat}(l2:V1.Le V2)(hfr:V1.w.heap.size<=bk)(l3:(V2.AV bk).Le V3):V1.Le V3:=fun b o h=>l3 b o ⟨fun hh=>hh.elim (l2 b o h).1 fun e=>by
  have hlt:b<V1.w.heap.size:=by
   rcases Nat.lt_or_ge b V1.w.heap.size with h'|h'
   ·exact h'
   ·have:=h.2;rw [Array.getElem?_eq_none h'] at this;cases this
  have:=e.1
  omega,(l2 b o h).2⟩
theorem BT (k:Nat)(t:Tr):rt k t<=k:=by
 cases t with
 | leaf i=>unfold rt;split<;>omega
 | node l a b=>exact Int.le_refl _
theorem ui:∀(t:Tr)(k:Nat),∀d∈wr k t,d.left<=k+t.size/\d.right<=k+t.size
 | .leaf _,k,d,h=>by simp [wr] at h
 | .node l a b,k,d,h=>by
  have r1:=BT (k+1) a
  have r2:=BT (k+1+a.size) b
  simp only [wr,List.mem_cons,List.mem_append] at h
  simp only [Tr.size]
  rcases h with rfl|h|h
  ·dsimp only;omega
  ·have:=ui a _ d h;omega
  ·have:=ui b _ d h;omega
theorem ER {t:Tr}(h:t.jB Ds):t.jB Bd:=Tr.jB.imp (fun _ h=>h.2) h
end Go.Proofs.Tryz
namespace Go.br
def View.bare (V:View)(b:Nat):View:=⟨V.w,fun x=>V.H x/\x≠b,fun x=>V.X x/\x≠b,fun x h=>V.hH x h.1,fun x h=>⟨V.hX x h.1,h.2⟩⟩
theorem ab.bare {P:Program}{f:FuncId}{args:Array Value}{V:View}{b:Nat}{R:Value->View->Prop}(hs:b<V.w.heap.size)(h:ab P f args (V.bare b) R) :
  ab P f args V fun r V'=>V'.w.heap[b]?=V.w.heap[b]?/\R r (V'.bare b):=by
 refine ⟨h.1,h.2.mono fun _ w' ⟨r,he,hx,hr⟩=>⟨r,he,⟨hx.size,fun x h1 h2=>hx.bf x h1 fun h=>h2 h.1,hx.os,hx.tape,hx.out⟩,hx.bf b hs (fun h=>h.2 rfl),hr⟩⟩
def Dr (V:View)(b:Nat):Prop:=∃(cs:Array Value)(ty:TypeId)(m:Nat×Nat),V.w.heap[b]?=some (.cells cs ty m)/\∀v∈cs,∀k z,v≠.int k z
theorem Dr.ne {V:View}{b:Nat}(h:Dr V b){a:Addr}{k:IntKind}{z:Int}(ha:(V.bare b).at a (.int k z)):a.block≠b:=by
 obtain ⟨cs,ty,m,hb,hn⟩:=h
 intro e
 have h2:=ha.2
 unfold World.cell? at h2
 rw [e] at h2
 have hb':(V.bare b).w.heap[b]?=some (.cells cs ty m):=hb
 rw [hb'] at h2
 dsimp only at h2
 split at h2
 ·cases h2
 ·obtain ⟨hi,e2⟩:=Array.getElem?_eq_some_iff.1 h2
  exact hn _ (e2▸Array.getElem_mem hi) k z rfl
end Go.br
namespace Go.Proofs.Tryz
open Go.br Go.dS
theorem B8:∀{t:Tr} {k:Nat},t.jB Ds->∀x∈wr k t,fF x.ln=true
 | .leaf _,_,_,x,h=>by cases h
 | .node l a b,k,⟨h1,h2,h3⟩,x,h=>by
  simp only [wr] at h
  rcases List.mem_cons.1 h with rfl|h
  ·exact h1.1
  ·rcases List.mem_append.1 h with h|h
   ·exact B8 h2 x h
   ·exact B8 h3 x h
end Go.Proofs.Tryz
