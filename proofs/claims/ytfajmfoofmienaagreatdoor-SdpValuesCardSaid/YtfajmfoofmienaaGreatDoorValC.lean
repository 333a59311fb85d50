import Derived.Test.YtfajmfoofmienaaGreatDoorValB
set_option maxHeartbeats 8000000
set_option linter.unusedVariables false
set_option linter.unusedSimpArgs false
namespace Go.Proofs.YtfajmfoofmienaaGreatDoor
open Go Go.GL
variable {E:Env}{h h' h0:HF}{b bytes l1 l2 m n size bt sz n' i j V d len lo n0 u P U c' k m':Nat}{new cs c args vs:List Value}{a1 a2:Option Addr}{A C w ld ln W Z:List Nat}{c1 c2 d1 d2 z2 v n1 n2:Value}{fn:Func}{e2 ty xT e3:TypeId}{ji:Int}{ik ik':IntKind}{q:Rat}{f:FuncId}{body:Code}{hi:Operand}
theorem zgm {top v1 v2 w q r:Nat}(hsum:q*v1+r=top)(hv:0<v1*4294967296+v2)(hg:(top*4294967296+w)/(v1*4294967296+v2)≤q)(hc:q*v2≤r*4294967296+w):q=(top*4294967296+w)/(v1*4294967296+v2):=by
 apply Nat.le_antisymm _ hg;rw [Nat.le_div_iff_mul_le hv,←hsum];have e:q*(v1*4294967296+v2)=q*v1*4294967296+q*v2:=by rw [Nat.mul_add,Nat.mul_assoc]
 rw [e,Nat.add_mul];omega
section
variable {K n n1:Nat}{h:HF}{t:TF}{w:List Nat}{va vb vc vd ve:Value}
set_option maxRecDepth 100000
theorem cn {top v1 v2 w2:Nat}(b1:2147483648≤v1∧v1<4294967296)(b2:v2<4294967296)(b3:w2<4294967296)(htop:top<v1*4294967296+v2)
  {c:Code}(hc:zfi Tryz.f216 [1,1,1,1,1,1,1,1,1,1,1,1,1,1,0]=some c){Q:Ex→SV→Prop}
  (hL:tE t [(2,va),(8,vb),(11,vc),(14,vd),(9,.int .u64 (v1:Int)),(10,.int .u64 (v2:Int)),(13,.int .u64 (w2:Int)),(15,.int .u64 ((top/v1:Nat):Int)),(16,.int .u64 ((top%v1:Nat):Int))])
  (hQ:∀(t':TF) (g:Nat),g=(top*4294967296+w2)/(v1*4294967296+v2)→tE t' [(2,va),(8,vb),(11,vc),(14,vd),(9,.int .u64 (v1:Int)),(10,.int .u64 (v2:Int)),(13,.int .u64 (w2:Int)),(15,.int .u64 (g:Int))]→Q .normal ⟨t',h,n1,w⟩):EC (ctx K n (Tryz.f216).ntmps) c ⟨t,h,n1,w⟩ Q:=by
 obtain rfl:=Option.some.inj (hc.symm.trans (rfl:zfi Tryz.f216 [1,1,1,1,1,1,1,1,1,1,1,1,1,1,0]=some _));clear hc;have hlt:top%v1<v1:=Nat.mod_lt _ zo;have hg1:=fJ (B:=4294967296) (P:=1) (v1:=v1) (v2:=v2) (vr:=0) (w2:=w2) (wr:=0) (top:=top) zo b3 zo;have hg3:∀hh rr:Nat,hh*v1+rr=top→rr*4294967296+w2<hh*v2→(top*4294967296+w2)/(v1*4294967296+v2)<hh:=fun hh rr e1 e2=>by
  have:=za0 (B:=4294967296) (P:=1) (v1:=v1) (v2:=v2) (vr:=0) (w2:=w2) (wr:=0) (top:=top) b3 zo e1 e2;simpa using this
 simp only [Nat.mul_one,Nat.add_zero] at hg1;have hg2:(top*4294967296+w2)/(v1*4294967296+v2)<4294967296:=by
  rw [Nat.div_lt_iff_lt_mul zo];have:(top+1)*4294967296≤(v1*4294967296+v2)*4294967296:=Nat.mul_le_mul_right _ htop;rw [Nat.mul_comm 4294967296];omega
 generalize hgg:(top*4294967296+w2)/(v1*4294967296+v2)=g at hg1 hg2 hg3;have hend:∀q r:Nat,q*v1+r=top→g≤q→q*v2≤r*4294967296+w2→q=g:=fun q r e1 e2 e3=>by
  rw [←hgg] at e2 ⊢;exact zgm e1 zo e2 e3
 refine zN ?_;refine zQ (α:=Nat×Nat) (fun z=>[(2,va),(8,vb),(11,vc),(14,vd),(9,.int .u64 (v1:Int)),(10,.int .u64 (v2:Int)),(13,.int .u64 (w2:Int)),(15,.int .u64 (z.1:Int)),(16,.int .u64 (z.2:Int))])
  (fun z h' n' w'=>h=h'∧n1=n'∧w=w'∧z.1*v1+z.2=top∧g≤z.1∧z.2<4294967296) (fun z=>z.1) (top/v1,top%v1) hL ⟨rfl,rfl,rfl,by rw [Nat.mul_comm];exact Nat.div_add_mod _ _,hg1,by show _%_<_;omega⟩ (by show top/v1<LL;have:top/v1≤top:=Nat.div_le_self _ _;unfold LL;omega) ?_
 rintro ⟨hh,rr⟩ t2 _ _ _ ⟨rfl,rfl,rfl,hsum,hgh,hrr⟩;simp only at hsum hgh hrr;have hhb:hh<18446744073709551616:=by
  have h1:hh*2147483648≤hh*v1:=Nat.mul_le_mul_left _ b1.1;omega
 have hstep:g<hh→(hh-1)*v1+(rr+v1)=top:=fun hlt=>by
  obtain ⟨x,rfl⟩:∃x,hh=x+1:=⟨hh-1,zo⟩;rw [Nat.add_mul,Nat.one_mul] at hsum;simp only [Nat.add_sub_cancel];omega
 have hbrk:g<hh→4294967296≤rr+v1→hh-1=g:=fun hlt hge=>by
  have h1:=hstep hlt;have h2:hh-1<4294967296:=by
   apply Classical.byContradiction;intro hn;have:4294967296*v1≤(hh-1)*v1:=Nat.mul_le_mul_right _ zo;omega
  refine hend _ _ h1 zo ?_;have h3:(hh-1)*v2≤4294967296*4294967296:=Nat.mul_le_mul zo zo;have h4:4294967296*4294967296≤(rr+v1)*4294967296:=Nat.mul_le_mul_right _ hge;omega
 refine zN ?_;by_cases hB:4294967296≤hh
 ·repeat refine zW ?_
  refine zN ?_;refine Zb ?_;repeat refine zW ?_
  refine zN ?_;repeat refine zW ?_
  refine zN ?_;by_cases hge:4294967296≤rr+v1
  ·repeat refine zW ?_
   refine zN ?_;refine Zb ?_;have hb:=hbrk zo hge;exact hQ _ g hgg.symm ⟨rfl,rfl,rfl,rfl,rfl,rfl,rfl,by show Value.int .u64 _=Value.int .u64 _;rw [hb],trivial⟩
  repeat refine zW ?_
  refine zN ?_;refine Za ?_;exact goOn (hh-1,rr+v1) (by show hh-1<hh;omega) ⟨rfl,rfl,rfl,rfl,rfl,rfl,rfl,rfl,rfl,trivial⟩ ⟨rfl,rfl,rfl,hstep zo,by show g≤hh-1;omega,by show rr+v1<_;omega⟩
 have hpr:hh*v2≤4294967295*4294967295:=Nat.mul_le_mul zo zo;by_cases htest:4294967296*rr+w2<hh*v2
 ·have hlt:=hg3 hh rr hsum zo;repeat refine zW ?_
  refine zN ?_;first
   |rw [zc rfl]
   |rw [zc (by show Value.bool (decide _)=_;rw [decide_eq_true (Int.ofNat_lt.2 htest)])]
  refine zN ?_;repeat refine zW ?_
  refine zN ?_;repeat refine zW ?_
  refine zN ?_;by_cases hge:4294967296≤rr+v1
  ·repeat refine zW ?_
   refine zN ?_;refine Zb ?_;have hb:=hbrk hlt hge;exact hQ _ g hgg.symm ⟨rfl,rfl,rfl,rfl,rfl,rfl,rfl,by show Value.int .u64 _=Value.int .u64 _;rw [hb],trivial⟩
  repeat refine zW ?_
  refine zN ?_;refine Za ?_;exact goOn (hh-1,rr+v1) (by show hh-1<hh;omega) ⟨rfl,rfl,rfl,rfl,rfl,rfl,rfl,rfl,rfl,trivial⟩ ⟨rfl,rfl,rfl,hstep hlt,by show g≤hh-1;omega,by show rr+v1<_;omega⟩
 repeat refine zW ?_
 refine zN ?_;first
  |rw [za rfl]
  |rw [za (by show Value.bool (decide _)=_;rw [decide_eq_false (fun h=>htest (Int.ofNat_lt.1 h))])]
 refine zN ?_;have hb:=hend hh rr hsum hgh zo;exact hQ _ g hgg.symm ⟨rfl,rfl,rfl,rfl,rfl,rfl,rfl,by show Value.int .u64 _=Value.int .u64 _;rw [hb],trivial⟩
theorem cm {top v1 v2 w2:Nat}(b1:2147483648≤v1∧v1<4294967296)(b2:v2<4294967296)(b3:w2<4294967296)(htop:top<v1*4294967296+v2)
  {c:Code}(hc:zfi Tryz.f216 [1,1,1,1,1,1,1,1,1,1,1,1,1,1,1,1,1,1,0]=some c){Q:Ex→SV→Prop}
  (hL:tE t [(2,va),(8,vb),(15,vc),(17,vd),(9,.int .u64 (v1:Int)),(10,.int .u64 (v2:Int)),(14,.int .u64 (w2:Int)),(18,.int .u64 ((top/v1:Nat):Int)),(16,.int .u64 ((top%v1:Nat):Int))])
  (hQ:∀(t':TF) (g:Nat),g=(top*4294967296+w2)/(v1*4294967296+v2)→tE t' [(2,va),(8,vb),(15,vc),(17,vd),(9,.int .u64 (v1:Int)),(10,.int .u64 (v2:Int)),(14,.int .u64 (w2:Int)),(18,.int .u64 (g:Int))]→Q .normal ⟨t',h,n1,w⟩):EC (ctx K n (Tryz.f216).ntmps) c ⟨t,h,n1,w⟩ Q:=by
 obtain rfl:=Option.some.inj (hc.symm.trans (rfl:zfi Tryz.f216 [1,1,1,1,1,1,1,1,1,1,1,1,1,1,1,1,1,1,0]=some _));clear hc;have hlt:top%v1<v1:=Nat.mod_lt _ zo;have hg1:=fJ (B:=4294967296) (P:=1) (v1:=v1) (v2:=v2) (vr:=0) (w2:=w2) (wr:=0) (top:=top) zo b3 zo;have hg3:∀hh rr:Nat,hh*v1+rr=top→rr*4294967296+w2<hh*v2→(top*4294967296+w2)/(v1*4294967296+v2)<hh:=fun hh rr e1 e2=>by
  have:=za0 (B:=4294967296) (P:=1) (v1:=v1) (v2:=v2) (vr:=0) (w2:=w2) (wr:=0) (top:=top) b3 zo e1 e2;simpa using this
 simp only [Nat.mul_one,Nat.add_zero] at hg1;have hg2:(top*4294967296+w2)/(v1*4294967296+v2)<4294967296:=by
  rw [Nat.div_lt_iff_lt_mul zo];have:(top+1)*4294967296≤(v1*4294967296+v2)*4294967296:=Nat.mul_le_mul_right _ htop;rw [Nat.mul_comm 4294967296];omega
 generalize hgg:(top*4294967296+w2)/(v1*4294967296+v2)=g at hg1 hg2 hg3;have hend:∀q r:Nat,q*v1+r=top→g≤q→q*v2≤r*4294967296+w2→q=g:=fun q r e1 e2 e3=>by
  rw [←hgg] at e2 ⊢;exact zgm e1 zo e2 e3
 refine zN ?_;refine zQ (α:=Nat×Nat) (fun z=>[(2,va),(8,vb),(15,vc),(17,vd),(9,.int .u64 (v1:Int)),(10,.int .u64 (v2:Int)),(14,.int .u64 (w2:Int)),(18,.int .u64 (z.1:Int)),(16,.int .u64 (z.2:Int))])
  (fun z h' n' w'=>h=h'∧n1=n'∧w=w'∧z.1*v1+z.2=top∧g≤z.1∧z.2<4294967296) (fun z=>z.1) (top/v1,top%v1) hL ⟨rfl,rfl,rfl,by rw [Nat.mul_comm];exact Nat.div_add_mod _ _,hg1,by show _%_<_;omega⟩ (by show top/v1<LL;have:top/v1≤top:=Nat.div_le_self _ _;unfold LL;omega) ?_
 rintro ⟨hh,rr⟩ t2 _ _ _ ⟨rfl,rfl,rfl,hsum,hgh,hrr⟩;simp only at hsum hgh hrr;have hhb:hh<18446744073709551616:=by
  have h1:hh*2147483648≤hh*v1:=Nat.mul_le_mul_left _ b1.1;omega
 have hstep:g<hh→(hh-1)*v1+(rr+v1)=top:=fun hlt=>by
  obtain ⟨x,rfl⟩:∃x,hh=x+1:=⟨hh-1,zo⟩;rw [Nat.add_mul,Nat.one_mul] at hsum;simp only [Nat.add_sub_cancel];omega
 have hbrk:g<hh→4294967296≤rr+v1→hh-1=g:=fun hlt hge=>by
  have h1:=hstep hlt;have h2:hh-1<4294967296:=by
   apply Classical.byContradiction;intro hn;have:4294967296*v1≤(hh-1)*v1:=Nat.mul_le_mul_right _ zo;omega
  refine hend _ _ h1 zo ?_;have h3:(hh-1)*v2≤4294967296*4294967296:=Nat.mul_le_mul zo zo;have h4:4294967296*4294967296≤(rr+v1)*4294967296:=Nat.mul_le_mul_right _ hge;omega
 refine zN ?_;by_cases hB:4294967296≤hh
 ·repeat refine zW ?_
  refine zN ?_;refine Zb ?_;repeat refine zW ?_
  refine zN ?_;repeat refine zW ?_
  refine zN ?_;by_cases hge:4294967296≤rr+v1
  ·repeat refine zW ?_
   refine zN ?_;refine Zb ?_;have hb:=hbrk zo hge;exact hQ _ g hgg.symm ⟨rfl,rfl,rfl,rfl,rfl,rfl,rfl,by show Value.int .u64 _=Value.int .u64 _;rw [hb],trivial⟩
  repeat refine zW ?_
  refine zN ?_;refine Za ?_;exact goOn (hh-1,rr+v1) (by show hh-1<hh;omega) ⟨rfl,rfl,rfl,rfl,rfl,rfl,rfl,rfl,rfl,trivial⟩ ⟨rfl,rfl,rfl,hstep zo,by show g≤hh-1;omega,by show rr+v1<_;omega⟩
 have hpr:hh*v2≤4294967295*4294967295:=Nat.mul_le_mul zo zo;by_cases htest:4294967296*rr+w2<hh*v2
 ·have hlt:=hg3 hh rr hsum zo;repeat refine zW ?_
  refine zN ?_;first
   |rw [zc rfl]
   |rw [zc (by show Value.bool (decide _)=_;rw [decide_eq_true (Int.ofNat_lt.2 htest)])]
  refine zN ?_;repeat refine zW ?_
  refine zN ?_;repeat refine zW ?_
  refine zN ?_;by_cases hge:4294967296≤rr+v1
  ·repeat refine zW ?_
   refine zN ?_;refine Zb ?_;have hb:=hbrk hlt hge;exact hQ _ g hgg.symm ⟨rfl,rfl,rfl,rfl,rfl,rfl,rfl,by show Value.int .u64 _=Value.int .u64 _;rw [hb],trivial⟩
  repeat refine zW ?_
  refine zN ?_;refine Za ?_;exact goOn (hh-1,rr+v1) (by show hh-1<hh;omega) ⟨rfl,rfl,rfl,rfl,rfl,rfl,rfl,rfl,rfl,trivial⟩ ⟨rfl,rfl,rfl,hstep hlt,by show g≤hh-1;omega,by show rr+v1<_;omega⟩
 repeat refine zW ?_
 refine zN ?_;first
  |rw [za rfl]
  |rw [za (by show Value.bool (decide _)=_;rw [decide_eq_false (fun h=>htest (Int.ofNat_lt.1 h))])]
 refine zN ?_;have hb:=hend hh rr hsum hgh zo;exact hQ _ g hgg.symm ⟨rfl,rfl,rfl,rfl,rfl,rfl,rfl,by show Value.int .u64 _=Value.int .u64 _;rw [hb],trivial⟩
end
section
variable {e:TypeId}{sT:TypeId}{z:Value}
theorem ziy (n:Nat):gro (3*n+2)=false:=by
 unfold gro;rw [show (3*n+2)%3=2 from zo];rfl
theorem cR {x:Value}(hu:E.und sT=some (.slice e))(hi:E.inf e=some (size,bytes,z))(hz:(zr z).length=size)(h1:1≤size∧1≤bytes)(hx:argS h size x m new)(hb:m*bytes≤1099511627776)(hg:gro b=false)(hl:new.length=m*size):
  ∃v' h' n',yk E h n sT (.slice (some ⟨b,0,none⟩) 0 0) x=some (.val v' h' n' [])∧n≤n'∧Ext n h h'∧(b<3*n→Sl h' n' size v' new)∧(∀lo,lo≤n→3*lo≤b→ya lo v')∧∃a,v'=.slice a m m:=by
 obtain ⟨hl',hc⟩:=hx;have c1:Nat.ble (m*bytes) 1099511627776=true:=Nat.ble_eq_true_of_le hb;have c2:Nat.beq (zr z).length size=true:=by rw [hz];exact Nat.beq_refl _
 have c3:Nat.ble 1 size=true:=Nat.ble_eq_true_of_le h1.1;have c4:Nat.ble 1 bytes=true:=Nat.ble_eq_true_of_le h1.2;by_cases hm:m=0
 ·subst hm;have hn0:new=[]:=List.length_eq_zero_iff.1 (by rw [hl];simp);subst hn0;refine ⟨.slice (some ⟨b,0,none⟩) 0 0,h,n,?_,Nat.le_refl _,Ext.refl _ _,fun hb=>.nil (.inr ⟨_,_,_,rfl,hb⟩),fun lo _ hlo=>hlo,_,rfl⟩;simp only [yk,hu,hi,hl',hc,Nat.zero_add,c1,c2,c3,c4,Bool.and_self,show Nat.ble 0 0=true from rfl,wZ]
 have c5:Nat.ble m 0=false:=by
  cases hb:Nat.ble m 0 with
  |false=>rfl
  |true=>have:=Nat.le_of_ble_eq_true hb;omega
 have c6:yb h size 0 (.slice (some ⟨b,0,none⟩) 0 0)=some []:=by simp [yb]
 refine ⟨.slice (some ⟨3*n+1,0,none⟩) m m,_,n+1,?_,Nat.le_succ _,Ext.upd (b:=3*n+1) (x:=some (.row new e)) zo,fun _=>.at_ zo (ze _ _ _) rfl (Nat.le_refl _) zo (by rw [List.drop_zero,List.take_of_length_le zo]),fun lo hlo _=>by show 3*lo≤3*n+1;omega,_,rfl⟩;simp only [yk,hu,hi,hl',hc,Nat.zero_add,c1,c2,c3,c4,c5,c6,Bool.and_self,lR,hg,List.nil_append]
set_option maxRecDepth 100000
theorem jw (k:Nat){c1 c2:Nat}(hA:Sl h n 1 (.slice a1 l1 c1) (u32s A))(hC:Sl h n 1 (.slice a2 l2 c2) (u32s C))(nA:Norm A)(nC:Norm C)(hC0:C≠[])(hb:A.length<1000000000)(hC1:C.length≤1):
  CF (cal (k+3)) 145 [.slice a1 l1 c1,.slice a2 l2 c2] h n (DivR n h A C):=by
 refine zk (fn:=Tryz.f145) R4 ?_;have e1:=hA.lenU;have e2:=hC.lenU;subst e1 e2;have hCpos:=nC.pos hC0;refine zN ?_;refine sh ?_;repeat refine zR ?_
 refine z8 _ R5 (jE (k+1) hA hC nA nC zo) ?_;rintro _ rfl;by_cases hlt:val A<val C
 ·rw [vn hlt];refine sh ?_;refine Zb ?_;refine wn (cs:=[]) R5 ?_;repeat refine zR ?_
  obtain ⟨v',h',n',g1,g2,g3,g4,g5,a',rfl⟩:=cR (E:=env) (h:=upd h (3*n+2) (some (.row [] 151))) (n:=n+1) (sT:=47) (b:=3*n+2) rfl rfl rfl zd (uB (hA.ext (Ext.upd zo) (Nat.le_succ n))) zo (ziy n) (by rw [yY,Nat.mul_one]);refine yJ R5 g1 ?_;refine sh ?_;refine retH [.slice none 0 0,.slice a' A.length A.length] R3 ⟨rfl,by show n≤n';omega,(Ext.upd zo).trans g3 (Nat.le_succ n),none,0,[],a',_,A,rfl,.nil (.inl rfl),g4 zo,Norm.nil,nA,?_,?_,trivial,g5 n (Nat.le_succ n) zo⟩
  ·rw [Nat.div_eq_of_lt hlt];rfl
  rw [Nat.mod_eq_of_lt hlt]
 have hz:0≤cmpZ (val A) (val C):=by
  unfold cmpZ;rw [if_neg hlt];split<;>decide
 generalize cmpZ (val A) (val C)=cz at hz;refine sh ?_;refine Za ?_;by_cases hone:C.length=1
 ·obtain ⟨d,rfl⟩:∃d,C=[d]:=List.length_eq_one_iff.1 hone;have hd0:d≠0:=nC.last (l:=[]);have hdB:d<4294967296:=nC.1 d (by simp);have hvC:val [d]=d:=by simp [val]
  refine sh ?_;refine Zb ?_;repeat refine zR ?_
  refine xi (j:=0) (dv:=d) R7 hC R2 rfl (fun _=>rfl) R4 fun _=>?_;refine zu _ R5 (pN k (d:=d) zo nA.1 zo hA) ?_;rintro _ h1 n1 _ ⟨rfl,hn1,hx1,a',c',L,rfl,hsL,nL,hvL,hfL,_⟩;refine sh ?_;repeat refine zR ?_
  refine wn (cs:=[.int .u32 ((val A%d:Nat):Int)]) R5 ?_;have htr:=tM (k+1) (l:=[val A%d]) (h:=upd h1 (3*n1+2) (some (.row [.int .u32 ((val A%d:Nat):Int)] 151))) (n:=n1+1) (by simp) (Sl.own (O:=[val A%d]) (ze _ _ _) zo rfl (Nat.le_refl _));refine zu _ R5 htr ?_;rintro _ _ _ _ ⟨e5,e6,rfl,rfl,hsR⟩;subst e5 e6;refine sh ?_;have hmod:val A%d<d:=Nat.mod_lt _ zo;refine retH [.slice a' L.length c',.slice (some ⟨3*n1+2,0,none⟩) (yC [val A%d]).length 1] R3 ⟨rfl,by show n≤n1+1;omega,hx1.trans (Ext.upd zo) hn1,a',c',L,_,_,yC [val A%d],rfl,hsL.ext (Ext.upd zo) zs,hsR,nL,Norm.trim (fun x hx=>by simp at hx;omega),by rw [hvL,hvC],?_,hfL,by show 3*n≤3*n1+2;omega⟩;rw [wz,hvC];simp [val]
 have hlen0:C.length≠0:=fun e=>hC0 (List.length_eq_zero_iff.1 e);omega
end
section
section
variable {X:CtxF}{ops r:List Oper}{t:TF}{h:HF}{n:Nat}{w:List Nat}{Q:SV→Prop}{o:Oper}{d:Tmp}
theorem st_mul {ty ty':TypeId}{x y:Operand}{a b:Int}(hw:zh ops t o=true)(hd:o.dst=some d)(hn:zm X.nt (some d)=true)(ho:o.op=.binOp .mul ty x y ty')(hx:evF t x=.int .i64 a)(hy:evF t y=.int .i64 b)(hr: -9223372036854775808≤a*b∧a*b<9223372036854775808)
  (k:EO X ops r ⟨upd t d (.int .i64 (a*b)),h,n,w⟩ Q):EO X ops (o::r) ⟨t,h,n,w⟩ Q:=by
 refine zA ⟨hw,hd,hn,(by rw [ho];rfl),?_⟩ k;rw [ho];show binE X.E .mul ty (evF t x) (evF t y)=_;rw [hx,hy];show some (Value.int .i64 (IntKind.wrap .i64 (a*b)))=_;rw [xo hr]
end
theorem zcr (k:Nat){h:HF}{n:Nat}{c1 c2:Value}{x:Int}{l:List Nat}(hi:IntR h n c1 c2 x l)(hb:l.length<1000000000):VF (cal (k+1)) 107 [.agg #[c1,c2]] h n fun v=>∃b:Nat,v=.int .i64 (b:Int)∧(b=0↔x.natAbs=0)∧(b=1↔x.natAbs=1):=by
 refine zw (fn:=Tryz.f107) R4 ?_;obtain ⟨rfl,hsl,hnorm,hval⟩:=hi;obtain ⟨a,len,cap,rfl,_⟩:=hsl.len;have e1:=hsl.lenU;subst e1;refine zN ?_;refine xy (cs:=[.bool (decide (x<0)),.slice a l.length cap]) R5 ?_;refine sh ?_;repeat refine zR ?_
 refine zg R6 (ze _ _ _) (v:=.slice a l.length cap) R2 ?_;by_cases h0:l=[]
 ·subst h0;refine sh ?_;refine Zb ?_;refine sh ?_;refine retF _ rfl (zi rfl) R2 ⟨0,rfl,?_,?_⟩<;>rw [←hval]<;>simp [val]
 obtain ⟨i,top,rfl⟩:=snoc h0;have ht0:top≠0:=hnorm.last;have htB:top<4294967296:=hnorm.1 top (by simp);have hll:(i++[top]).length=i.length+1:=by simp
 rw [hll] at hb hsl;simp only [hll];have hsl1:=hsl.ext (Ext.upd (b:=3*n+2) (x:=some (.row [.bool (decide (x<0)),.slice a (i.length+1) cap] 49)) zo) (Nat.le_succ n);refine sh ?_;refine Za ?_;repeat refine zR ?_
 refine zg R6 (ze _ _ _) (v:=.slice a (i.length+1) cap) R2 ?_;refine zM ?_;refine nQ R6 zo ?_;refine st_mul rfl rfl rfl rfl rfl rfl zo ?_;refine sh ?_;repeat refine zR ?_
 refine zg R6 (ze _ _ _) (v:=.slice a (i.length+1) cap) R2 ?_;repeat refine zR ?_
 refine zg R6 (ze _ _ _) (v:=.slice a (i.length+1) cap) R2 ?_;repeat refine zR ?_
 refine xi (j:=i.length) (dv:=top) R7 hsl1 ⟨rfl,zo⟩ (by simp) (fun _=>rfl) R4 fun _=>?_;refine sh ?_;generalize hh1:upd h (3*n+2) _=h1;refine zQ (α:=Nat×Nat) (fun z=>[(3,.int .i64 ((32*i.length+z.1:Nat):Int)),(4,.int .u32 (z.2:Int))]) (fun z h' n' w'=>n'=n+1∧w'=[]∧z.2=top/2^z.1∧(z.1=0∨top/2^(z.1-1)≠0)∧z.1≤32) (fun z=>33-z.1) (0,top) ⟨by show Value.int .i64 _=Value.int .i64 _;congr 1;omega,rfl,trivial⟩ ⟨rfl,rfl,by simp,.inl rfl,Nat.zero_le _⟩ (by show 33-0<LL;decide) ?_;rintro ⟨c,tv⟩ t2 h2 _ _ ⟨rfl,rfl,htv,hmin,hc⟩;simp only at htv hmin hc;subst htv;refine zN ?_;by_cases hz:top/2^c=0
 ·refine sh ?_;refine Za ?_;refine sh ?_;have hc0:c≠0:=fun e=>by rw [e,Nat.pow_zero,Nat.div_one] at hz;exact ht0 hz
  have hvv:x.natAbs=val i+4294967296^i.length*top:=by rw [←hval,uW];simp [val]
  refine retF _ rfl (zi rfl) R2 ⟨32*i.length+c,rfl,?_,?_⟩
  ·have hpos:0<4294967296^i.length*top:=Nat.mul_pos (Nat.pow_pos zo) zo;omega
  have hpos:0<4294967296^i.length*top:=Nat.mul_pos (Nat.pow_pos zo) zo;by_cases hi0:i.length=0
  ·rw [List.length_eq_zero_iff.1 hi0] at hvv ⊢;simp only [val,List.length_nil,Nat.pow_zero,Nat.one_mul,Nat.zero_add,Nat.mul_zero] at hvv ⊢;rw [hvv];constructor
   ·rintro rfl;rw [Nat.pow_one] at hz;omega
   rintro rfl;rcases hmin with hm|hm
   ·exact absurd hm hc0
   apply Classical.byContradiction;intro hn;apply hm;exact Nat.div_eq_of_lt (Nat.one_lt_two_pow zo)
  have h32:4294967296^1*1≤4294967296^i.length*top:=Nat.mul_le_mul (Nat.pow_le_pow_right zo zo) zo;omega
 have hc32:c+1≤32:=by
  apply Classical.byContradiction;intro hn;have:c=32:=zo;subst this;exact hz (Nat.div_eq_of_lt htB)
 have hle:top/2^c≤top:=Nat.div_le_self _ _;generalize htv:top/2^c=tv at hz hle ⊢;refine sh ?_;refine Zb ?_;refine sh ?_;refine zM ?_;refine eQ (a:=tv) (s:=1) rfl rfl rfl rfl rfl rfl zo ?_;refine sh ?_;refine goOn (c+1,tv/2^1) (by show 33-(c+1)<33-c;omega) ⟨by show Value.int .i64 _=Value.int .i64 _;congr 1,rfl,trivial⟩ ⟨rfl,rfl,?_,.inr (by show top/2^(c+1-1)≠0;rw [Nat.add_sub_cancel,htv];exact hz),hc32⟩;show tv/2^1=top/2^(c+1);rw [←htv,Nat.div_div_eq_div_mul,←Nat.pow_add]
end
section
variable {a:Option Addr}{z:Value}
theorem qg {c:Nat}{L:List Nat}{x:Int}{neg:Bool}(hs:Sl h n 1 (.slice a L.length c) (u32s L))(hn:Norm L)(hv:val L=x.natAbs)(hneg:x≠0→neg=decide (x<0)):IntR h n (.bool (neg&&decide (0<L.length))) (.slice a L.length c) x L:=by
 refine ⟨?_,hs,hn,hv⟩;have h0:=hn.zero;rw [←List.length_eq_zero_iff] at h0;by_cases hx:x=0
 ·have:¬0<L.length:=zo;rw [decide_eq_false this,hx,Bool.and_false];rfl
 have:0<L.length:=zo;rw [decide_eq_true this,Bool.and_true,hneg hx]
theorem zai (k:Nat){x:Int}{l:List Nat}(hi:IntR h n c1 c2 x l):CF (cal (k+2)) 104 [.agg #[c1,c2]] h n fun v h' n' w=>w=[]∧n≤n'∧Ext n h h'∧∃c1',v=.agg #[c1',c2]∧IntR h' n' c1' c2 (-x) l:=by
 refine zk (fn:=Tryz.f104) R4 ?_;obtain ⟨rfl,hsl,hnorm,hval⟩:=hi;obtain ⟨a,len,cap,rfl,_⟩:=hsl.len;have e1:=hsl.lenU;subst e1;refine zN ?_;refine xy (cs:=[.bool (decide (x<0)),.slice a l.length cap]) R5 ?_;refine zT R5 ?_;refine zN ?_;generalize hh:upd (upd h (3*n+2) _) (3*(n+1)+2) _=h1;have hp:∃e,h1 (3*n+2)=some (.row [.bool (decide (x<0)),.slice a l.length cap] e):=⟨_,by rw [←hh,zj zo,ze]⟩;have hr:∃e,h1 (3*(n+1)+2)=some (.row [.bool false,.slice none 0 0] e):=⟨_,by rw [←hh,ze];rfl⟩;have hx1:Ext n h h1:=by rw [←hh];intro b hb;rw [zj zo,zj zo]
 obtain ⟨ty1,hp⟩:=hp;obtain ⟨ty2,hr⟩:=hr;repeat refine zR ?_
 refine zg R6 hp (v:=.bool (decide (x<0))) R2 ?_;repeat refine zR ?_
 refine zg R6 hp (v:=.slice a l.length cap) R2 ?_;refine zu _ R5 (wW k _ _ (!decide (x<0)) a l.length cap) ?_;rintro _ h2 n2 _ ⟨rfl,rfl,rfl,hx2⟩;refine zv [.bool (!decide (x<0)&&decide (0<l.length)),.slice a l.length cap] R7 rfl (by rw [hx2 _ zo];exact hr) rfl (by show 3*n≤_;omega) ?_;refine zN ?_;have hext:Ext n h (upd h2 (3*(n+1)+2) (some (.row [.bool (!decide (x<0)&&decide (0<l.length)),.slice a l.length cap] ty2))):=fun b hb=>by rw [zj zo,hx2 b zo];exact hx1 b hb
 refine yP R5 (ze _ _ _) rfl ⟨rfl,by show n≤n+1+1+1;omega,hext,_,rfl,qg (hsl.ext hext zo) hnorm (by rw [hval];omega) (fun hx0=>?_)⟩;by_cases hx:x<0
 ·rw [decide_eq_true hx,decide_eq_false zo];rfl
 rw [decide_eq_false hx,decide_eq_true zo];rfl
theorem zd0 {P:Value→HF→Nat→List Nat→Prop}{e:Ex}{t:TF}{a a2:Tmp}{ty2 e1:TypeId}{b2 sz2 bt2:Nat}{cs2:List Value}(he:sc e=true)(hr:fn.results.toList=[.cell a ty,.cell a2 ty2])(ha:t a=.pointer (some ⟨b,0,none⟩))(ha2:t a2=.pointer (some ⟨b2,0,none⟩))(hg:GL.isAgg env ty=some true)(hg2:GL.isAgg env ty2=some true)(hi:env.inf ty=some (sz,bt,z))(hi2:env.inf ty2=some (sz2,bt2,z2))(hb:h b=some (.row cs e1))(hb2:h b2=some (.row cs2 e2))(hl:cs.length=sz)(hl2:cs2.length=sz2)(hp:P (.tuple #[.agg cs.toArray,.agg cs2.toArray]) h n w):RetH fn P e ⟨t,h,n,w⟩:=by
 refine retH [.agg cs.toArray,.agg cs2.toArray] ⟨he,?_,rfl⟩ hp;rw [hr];have l1:=zB ⟨hg,hi⟩ hb rfl (show 0+sz≤cs.length by omega) (show (cs.drop 0).take sz=cs by rw [List.drop_zero,List.take_of_length_le zo]);have l2:=zB ⟨hg2,hi2⟩ hb2 rfl (show 0+sz2≤cs2.length by omega) (show (cs2.drop 0).take sz2=cs2 by rw [List.drop_zero,List.take_of_length_le zo]);simp only [resF,ha,ha2,l1,l2]
theorem kX (k:Nat){x y:Int}(hx:IntR h n c1 c2 x A)(hy:IntR h n d1 d2 y C)(hy0:y≠0)(hb:A.length<1000000000)(hC1:C.length≤1):
  CF (cal (k+4)) 108 [.agg #[c1,c2],.agg #[d1,d2]] h n fun v h' n' w=>w=[]∧n≤n'∧Ext n h h'∧∃q1 q2 r1 r2 Lq Lr,v=.tuple #[.agg #[q1,q2],.agg #[r1,r2]]∧IntR h' n' q1 q2 (x.tdiv y) Lq∧IntR h' n' r1 r2 (x.tmod y) Lr∧ya n q2∧ya n r2:=by
 refine zk (fn:=Tryz.f108) R4 ?_;obtain ⟨rfl,hA,nA,vA⟩:=hx;obtain ⟨rfl,hC,nC,vC⟩:=hy;obtain ⟨a,la,ca,rfl,_⟩:=hA.len;obtain ⟨c,lc,cc,rfl,_⟩:=hC.len;have e1:=hA.lenU;have e2:=hC.lenU;subst e1 e2;have hC0:C≠[]:=fun e=>hy0 (by have:=nC.zero.2 e;omega);refine zN ?_;refine xy (cs:=[.bool (decide (x<0)),.slice a A.length ca]) R5 ?_;refine xy (cs:=[.bool (decide (y<0)),.slice c C.length cc]) R5 ?_;refine zT R5 ?_;refine zT R5 ?_;refine zN ?_;generalize hh:upd (upd (upd (upd h (3*n+2) _) (3*(n+1)+2) _) (3*(n+1+1)+2) _) (3*(n+1+1+1)+2) _=h1;have hp1:∃e,h1 (3*n+2)=some (.row [.bool (decide (x<0)),.slice a A.length ca] e):=⟨_,by rw [←hh,zj zo,zj zo,zj zo,ze]⟩;have hp2:∃e,h1 (3*(n+1)+2)=some (.row [.bool (decide (y<0)),.slice c C.length cc] e):=⟨_,by rw [←hh,zj zo,zj zo,ze]⟩;have hr1:∃e,h1 (3*(n+1+1)+2)=some (.row [.bool false,.slice none 0 0] e):=⟨_,by rw [←hh,zj zo,ze];rfl⟩;have hr2:∃e,h1 (3*(n+1+1+1)+2)=some (.row [.bool false,.slice none 0 0] e):=⟨_,by rw [←hh,ze];rfl⟩;have hx1:Ext n h h1:=by rw [←hh];intro b hb;rw [zj zo,zj zo,zj zo,zj zo]
 obtain ⟨t1,hp1⟩:=hp1;obtain ⟨t2,hp2⟩:=hp2;obtain ⟨t3,hr1⟩:=hr1;obtain ⟨t4,hr2⟩:=hr2;repeat refine zR ?_
 refine zg R6 hp1 (v:=.slice a A.length ca) R2 ?_;repeat refine zR ?_
 refine zg R6 hp2 (v:=.slice c C.length cc) R2 ?_;refine zu _ R5 (jw k (hA.ext hx1 (show n≤n+1+1+1+1 by omega)) (hC.ext hx1 (show n≤n+1+1+1+1 by omega)) nA nC hC0 hb hC1) ?_;rintro _ h2 n2 _ ⟨rfl,hn2,hx2,aq,cq,Lq,ar,cr,Lr,rfl,hsq,hsr,nq,nr,vq,vr,fq,fr⟩;refine sh ?_;refine zl [0,1,0,4,15,0,63,0,128,0,1023,2047,4095] rfl ?_;have hp1':h2 (3*n+2)=_:=(hx2 _ zo).trans hp1;have hp2':h2 (3*(n+1)+2)=_:=(hx2 _ zo).trans hp2;repeat refine zD ?_
 refine zL R6 (zF rfl hp1' (v:=.bool (decide (x<0))) R2) R2 ?_;repeat refine zD ?_
 refine zL R6 (zF rfl hp2' (v:=.bool (decide (y<0))) R2) R2 ?_;refine dr_B (a:=decide (x<0) != decide (y<0)) R5 ?_;repeat refine zD ?_
 refine yK _ R7 (wW (k+2) _ _ (decide (x<0) != decide (y<0)) aq Lq.length cq) ?_;rintro _ h3 n3 _ ⟨rfl,rfl,rfl,hx3⟩;refine ⟨rfl,zo,?_⟩;repeat refine zD ?_
 refine zL R6 (zF rfl hp1' (v:=.bool (decide (x<0))) R2) ⟨(wJ (by simp)),rfl⟩ ?_;repeat refine zD ?_
 refine yK _ R7 (wW (k+2) _ _ (decide (x<0)) ar Lr.length cr) ?_;rintro _ h4 n4 _ ⟨rfl,rfl,rfl,hx4⟩;refine ⟨rfl,zo,?_⟩;have hr1':h4 (3*(n+1+1)+2)=_:=(hx4 _ zo).trans ((hx3 _ zo).trans ((hx2 _ zo).trans hr1));have hr2':h4 (3*(n+1+1+1)+2)=_:=(hx4 _ zo).trans ((hx3 _ zo).trans ((hx2 _ zo).trans hr2));refine yT (cs:=[.bool ((decide (x<0) != decide (y<0))&&decide (0<Lq.length)),.slice aq Lq.length cq]) R7 rfl hr1' zb (by show 3*n≤_;omega) R3 ?_;refine yT (cs:=[.bool (decide (x<0)&&decide (0<Lr.length)),.slice ar Lr.length cr]) R7 rfl ((zj zo).trans hr2') zb (by show 3*n≤_;omega) R3 ?_;refine zN ?_;have hext:Ext n h (upd (upd h4 (3*(n+1+1)+2) (some (.row [.bool ((decide (x<0) != decide (y<0))&&decide (0<Lq.length)),.slice aq Lq.length cq] t3))) (3*(n+1+1+1)+2) (some (.row [.bool (decide (x<0)&&decide (0<Lr.length)),.slice ar Lr.length cr] t4))):=fun b hb=>by
  rw [zj zo,zj zo,hx4 b zo,hx3 b zo,hx2 b zo];exact hx1 b hb
 refine zd0 rfl rfl rfl rfl rfl rfl rfl rfl ((zj zo).trans (ze _ _ _)) (ze _ _ _) rfl rfl ⟨rfl,by show n≤n2+1+1;omega,hext,_,_,_,_,Lq,Lr,rfl,?_,?_,?_,?_⟩
 ·refine qg (((((hsq.ext hx3 zs).ext hx4 zs).old fq zo).old fq zo)) nq ?_ fun h0=>?_
  ·rw [vq,vA,vC,Int.natAbs_tdiv];rfl
  by_cases hx0:x<0<;>by_cases hy0:y<0
  ·rw [decide_eq_true hx0,decide_eq_true hy0,decide_eq_false (by have:=Int.tdiv_nonneg_of_nonpos_of_nonpos (a:=x) (b:=y) zo zo;omega)];rfl
  ·have h1:=Int.tdiv_nonneg (a:= -x) (b:=y) zo zo;rw [Int.neg_tdiv] at h1;rw [decide_eq_true hx0,decide_eq_false hy0,decide_eq_true zo];rfl
  ·have h1:=Int.tdiv_nonneg (a:=x) (b:= -y) zo zo;rw [Int.tdiv_neg] at h1;rw [decide_eq_false hx0,decide_eq_true hy0,decide_eq_true zo];rfl
  rw [decide_eq_false hx0,decide_eq_false hy0,decide_eq_false (by have:=Int.tdiv_nonneg (a:=x) (b:=y) zo zo;omega)];rfl
 ·refine qg (((((hsr.ext hx3 zs).ext hx4 zs).old fr zo).old fr zo)) nr ?_ fun h0=>?_
  ·rw [vr,vA,vC,Int.natAbs_tmod]
  by_cases hx0:x<0
  ·have h1:=Int.tmod_nonneg (a:= -x) y zo;rw [Int.neg_tmod] at h1;rw [decide_eq_true hx0,decide_eq_true zo]
  rw [decide_eq_false hx0,decide_eq_false (by have:=Int.tmod_nonneg (a:=x) y zo;omega)]
 ·exact fq.mono zo
 exact fr.mono zo
end
section
def EuI (m x y:Nat):Prop:=if m%2=0 then y<2^(m/2) else x<2^(m/2+1)∧y<x
theorem EuI.pos {x y:Nat}(h:EuI m x y)(hy:0<y):0<m:=by
 apply Classical.byContradiction;intro hm;have:m=0:=zo;subst this;unfold EuI at h;simp at h;omega
theorem zea {x y:Nat}(hy:0<y)(h:y<x):2*(x%y)<x:=by
 have h1:=Nat.mod_lt x hy;have h2:=Nat.div_add_mod x y;have h3:1≤x/y:=(Nat.le_div_iff_mul_le hy).2 zo;have h4:y*1≤y*(x/y):=Nat.mul_le_mul_left y h3;omega
theorem EuI.next {x y:Nat}(h:EuI (m+1) x y)(hy:0<y):EuI m y (x%y):=by
 unfold EuI at h ⊢;by_cases hm:(m+1)%2=0
 ·rw [if_pos hm] at h;rw [if_neg zo];rw [show m/2+1=(m+1)/2 from zo];exact ⟨h,Nat.mod_lt x hy⟩
 rw [if_neg hm] at h;rw [if_pos zo];have h1:=zea hy h.2;rw [show (m+1)/2+1=m/2+1 from zo,Nat.pow_succ] at h;omega
def Off (b:Nat):Value→Prop
 | .slice (some a) _ _=>a.block≠b
 |_=>True
theorem Sl.off {x:Option BF}(s:Sl h n sz v c)(ho:Off b v):Sl (upd h b x) n sz v c:=
 s.keep (fun a l cap e=>by subst e;exact zj ho) (Nat.le_refl _)
theorem Below.off (h:Below m v)(hb:3*m≤b):Off b v:=by
 unfold Below at h;unfold Off;split<;>simp_all;omega
theorem ya.off (h:ya m v)(hb:b<3*m):Off b v:=by
 unfold ya at h;unfold Off;split<;>simp_all;omega
theorem zk9 (k:Nat){x y:Int}(hx:IntR h n c1 c2 x A)(hy:IntR h n d1 d2 y C)(hb:A.length<1000000000∧C.length<2):
  CF (cal (k+4)) 106 [.agg #[c1,c2],.agg #[d1,d2]] h n fun v h' n' w=>w=[]∧n≤n'∧Ext n h h'∧∃g1 g2 L,v=.agg #[g1,g2]∧IntR h' n' g1 g2 ((Nat.gcd x.natAbs y.natAbs:Nat):Int) L∧L.length<1000000000∧∀b,b<3*n→Off b c2→Off b d2→Off b g2:=by
 refine zk (fn:=Tryz.f106) R4 ?_;obtain ⟨rfl,hA,nA,vA⟩:=hx;obtain ⟨rfl,hC,nC,vC⟩:=hy;obtain ⟨a,la,ca,rfl,_⟩:=hA.len;obtain ⟨c,lc,cc,rfl,_⟩:=hC.len;have e1:=hA.lenU;have e2:=hC.lenU;subst e1 e2;refine zN ?_;refine xy (cs:=[.bool (decide (x<0)),.slice a A.length ca]) R5 ?_;refine xy (cs:=[.bool (decide (y<0)),.slice c C.length cc]) R5 ?_;refine zT R5 ?_;refine zN ?_;generalize hh:upd (upd (upd h (3*n+2) _) (3*(n+1)+2) _) (3*(n+1+1)+2) _=h1;have hp1:∃e,h1 (3*n+2)=some (.row [.bool (decide (x<0)),.slice a A.length ca] e):=⟨_,by rw [←hh,zj zo,zj zo,ze]⟩;have hp2:∃e,h1 (3*(n+1)+2)=some (.row [.bool (decide (y<0)),.slice c C.length cc] e):=⟨_,by rw [←hh,zj zo,ze]⟩;have hr1:∃e,h1 (3*(n+1+1)+2)=some (.row [.bool false,.slice none 0 0] e):=⟨_,by rw [←hh,ze];rfl⟩;have hx1:Ext n h h1:=by rw [←hh];intro b hb;rw [zj zo,zj zo,zj zo]
 obtain ⟨t1,hp1⟩:=hp1;obtain ⟨t2,hp2⟩:=hp2;obtain ⟨t3,hr1⟩:=hr1;rw [xF rfl];repeat refine zR ?_
 refine zg R6 hp1 (v:=.slice a A.length ca) R2 ?_;repeat refine zR ?_
 refine zg R6 hp2 (v:=.slice c C.length cc) R2 ?_;refine sh ?_;refine zQ (α:=(Option Addr×Nat×List Nat)×(Option Addr×Nat×List Nat)×Nat) (fun z=>[(4,.pointer (some ⟨3*(n+1+1)+2,0,none⟩)),(5,.slice z.1.1 z.1.2.2.length z.1.2.1),(6,.slice z.2.1.1 z.2.1.2.2.length z.2.1.2.1)])
  (fun z h' n' w'=>n+1+1+1≤n'∧w'=[]∧Ext (n+1+1+1) h1 h'∧Sl h' n' 1 (.slice z.1.1 z.1.2.2.length z.1.2.1) (u32s z.1.2.2)∧Sl h' n' 1 (.slice z.2.1.1 z.2.1.2.2.length z.2.1.2.1) (u32s z.2.1.2.2)∧Norm z.1.2.2∧Norm z.2.1.2.2∧z.1.2.2.length<1000000000∧z.2.1.2.2.length<2∧EuI z.2.2 (val z.1.2.2) (val z.2.1.2.2)∧Nat.gcd (val z.1.2.2) (val z.2.1.2.2)=Nat.gcd x.natAbs y.natAbs∧(∀b,b<3*(n+1+1+1)→Off b (.slice a A.length ca)→Off b (.slice c C.length cc)→Off b (.slice z.1.1 z.1.2.2.length z.1.2.1))∧(∀b,b<3*(n+1+1+1)→Off b (.slice a A.length ca)→Off b (.slice c C.length cc)→Off b (.slice z.2.1.1 z.2.1.2.2.length z.2.1.2.1))) (fun z=>z.2.2)
  ((a,ca,A),(c,cc,C),2*(32*C.length)) ⟨rfl,rfl,rfl,trivial⟩ ⟨by show n+1+1+1≤n+1+1+1;omega,rfl,Ext.refl _ _,hA.ext hx1 (show n≤n+1+1+1 by omega),hC.ext hx1 (show n≤n+1+1+1 by omega),nA,nC,hb.1,hb.2,?_,by rw [vA,vC],fun _ _ h1 _=>h1,fun _ _ _ h2=>h2⟩ (by show 2*(32*C.length)<LL;unfold LL;omega) ?_
 ·show EuI (2*(32*C.length)) (val A) (val C);unfold EuI;rw [if_pos zo,show 2*(32*C.length)/2=32*C.length from zo,Nat.pow_mul];exact bH nC.1
 rintro ⟨⟨a',ca',A'⟩,⟨c',cc',C'⟩,m⟩ t h2 n2 _ ⟨hn2,rfl,hx2,hA',hC',nA',nC',bA',bC',hm,hg,oA,oC⟩;simp only at hA' hC' nA' nC' bA' bC' hm hg oA oC;refine zN ?_;by_cases hC0:C'=[]
 ·subst hC0;refine sh ?_;refine Za ?_;repeat refine zR ?_
  refine zu _ R5 (wW (k+2) _ _ false a' A'.length ca') ?_;rintro _ h3 n3 _ ⟨rfl,rfl,rfl,hx3⟩;refine zv [.bool (false&&decide (0<A'.length)),.slice a' A'.length ca'] R7 rfl (by rw [hx3 _ zo,hx2 _ zo];exact hr1) rfl (by show 3*n≤_;omega) ?_;refine zN ?_;have hext:Ext n h (upd h3 (3*(n+1+1)+2) (some (.row [.bool (false&&decide (0<A'.length)),.slice a' A'.length ca'] t3))):=fun b hb=>by rw [zj zo,hx3 b zo,hx2 b zo];exact hx1 b hb
  refine yP R5 (ze _ _ _) rfl ⟨rfl,by show n≤n2+1;omega,hext,_,_,A',rfl,qg ((hA'.ext hx3 zs).off (oA _ zo (hA.below.off zo) (hC.below.off zo))) nA' ?_ (fun h0=>?_),bA',fun b hb=>oA b zo⟩
  ·rw [←hg];simp [val]
  rw [decide_eq_false zo]
 have hl0:0<C'.length:=List.length_pos_iff.2 hC0;have hpos:=nC'.pos hC0;refine sh ?_;refine Zb ?_;repeat refine zR ?_
 refine zu _ R5 (jw k hA' hC' nA' nC' hC0 bA' zo) ?_;rintro _ h3 n3 _ ⟨rfl,hn3,hx3,aq,cq,Lq,ar,cr,Lr,rfl,hsq,hsr,nq,nr,vq,vr,fq,fr⟩;refine sh ?_;refine sh ?_;have hm0:=hm.pos hpos;obtain ⟨m',rfl⟩:∃m',m=m'+1:=⟨m-1,zo⟩;have hlr:Lr.length≤C'.length:=nC'.len_le nr (by rw [vr];exact Nat.le_of_lt (Nat.mod_lt _ hpos));refine goOn ((c',cc',C'),(ar,cr,Lr),m') (by show m'<m'+1;omega) ⟨rfl,rfl,rfl,trivial⟩ ⟨by show n+1+1+1≤n3;omega,rfl,hx2.trans hx3 hn2,hC'.ext hx3 hn3,hsr,nC',nr,by show C'.length<1000000000;omega,by show Lr.length<2;omega,?_,?_,oC,fun b hb _ _=>fr.off zo⟩
 ·show EuI m' (val C') (val Lr);rw [vr];exact hm.next hpos
 show Nat.gcd (val C') (val Lr)=_;rw [vr,←hg,Nat.gcd_comm (val C'),←Nat.gcd_rec,Nat.gcd_comm]
end
section
theorem IntR.off {x:Int}{l:List Nat}{y:Option BF}(r:IntR h n c1 c2 x l)(ho:Off b c2):IntR (upd h b y) n c1 c2 x l:=⟨r.neg,r.sl.off ho,r.norm,r.val⟩
theorem IntR.len_le {x y:Int}{l l':List Nat}(r:IntR h n c1 c2 x l)(r':IntR h' n' d1 d2 y l')(hle:y.natAbs≤x.natAbs):l'.length≤l.length:=r.norm.len_le r'.norm (by rw [r.val,r'.val];exact hle)
theorem IntR.ones {x:Int}{l:List Nat}(r:IntR h n c1 c2 x l):ones [c1,c2]=true:=by
 rw [r.neg];show GL.ones (c2::_)=true;rw [r.sl.ones];rfl
def Away (n:Nat)(c0 v:Value):Prop:=(v=c0∧Below n v)∨ya (n+1+1+1) v
theorem Away.off {c0:Value}(h:Away n c0 v)(h1:3*n≤b)(h2:b<3*(n+1+1+1)):Off b v:=by
 rcases h with h|h
 ·exact h.2.off h1
 exact h.off h2
theorem Away.or {c0:Value}(h:Away n c0 v):v=c0∨ya n v:=by
 rcases h with h|h
 ·exact .inl h.1
 exact .inr (h.mono zo)
structure FrS (n:Nat)(c0 d0:Value)(h h':HF)(n':Nat)(c1 c2 d1 d2:Value)(x y:Int)(A C:List Nat):Prop where
 n3:n+1+1+1≤n'
 ext:Ext n h h'
 b2:∃e,h' (3*n+2)=some (.row [c1,c2] e)
 b3:∃e,h' (3*(n+1)+2)=some (.row [d1,d2] e)
 b4:∃e,h' (3*(n+1+1)+2)=some (.row [.bool false,.slice none 0 0,.bool false,.slice none 0 0] e)
 ix:IntR h' n' c1 c2 x A
 iy:IntR h' n' d1 d2 y C
 ox:Away n c0 c2
 oy:Away n d0 d2
theorem FrS.exts {c0 d0:Value}{h'':HF}{n'':Nat}{x y:Int}(s:FrS n c0 d0 h h' n' c1 c2 d1 d2 x y A C)(hx:Ext n' h' h'')(hn:n'≤n''):FrS n c0 d0 h h'' n'' c1 c2 d1 d2 x y A C:=by
 obtain ⟨n3,ext,⟨e2,b2⟩,⟨e3,b3⟩,⟨e4,b4⟩,ix,iy,ox,oy⟩:=s;exact ⟨zo,ext.trans hx zo,⟨e2,by rw [hx _ zo];exact b2⟩,⟨e3,by rw [hx _ zo];exact b3⟩,⟨e4,by rw [hx _ zo];exact b4⟩,ix.ext hx hn,iy.ext hx hn,ox,oy⟩
theorem FrS.putx {c0 d0:Value}{x y:Int}(s:FrS n c0 d0 h h' n' c1 c2 d1 d2 x y A C){u1 u2:Value}{x':Int}{A':List Nat}(i:IntR h' n' u1 u2 x' A')(o:Away n c0 u2)(e:TypeId):FrS n c0 d0 h (upd h' (3*n+2) (some (.row [u1,u2] e))) n' u1 u2 d1 d2 x' y A' C:=by
 obtain ⟨n3,ext,⟨e2,b2⟩,⟨e3,b3⟩,⟨e4,b4⟩,ix,iy,ox,oy⟩:=s;exact ⟨zo,fun b hb=>by rw [zj zo];exact ext b hb,⟨e,ze _ _ _⟩,⟨e3,by rw [zj zo];exact b3⟩,⟨e4,by rw [zj zo];exact b4⟩,i.off (o.off zo zo),iy.off (oy.off zo zo),o,oy⟩
theorem FrS.puty {c0 d0:Value}{x y:Int}(s:FrS n c0 d0 h h' n' c1 c2 d1 d2 x y A C){u1 u2:Value}{y':Int}{C':List Nat}(i:IntR h' n' u1 u2 y' C')(o:Away n d0 u2)(e:TypeId):FrS n c0 d0 h (upd h' (3*(n+1)+2) (some (.row [u1,u2] e))) n' c1 c2 u1 u2 x y' A C':=by
 obtain ⟨n3,ext,⟨e2,b2⟩,⟨e3,b3⟩,⟨e4,b4⟩,ix,iy,ox,oy⟩:=s;exact ⟨zo,fun b hb=>by rw [zj zo];exact ext b hb,⟨e2,by rw [zj zo];exact b2⟩,⟨e,ze _ _ _⟩,⟨e4,by rw [zj zo];exact b4⟩,ix.off (ox.off zo zo),i.off (o.off zo zo),ox,o⟩
theorem zle {x y:Int}(hy:0<y):(Rat.divInt x y).num=x/((Nat.gcd x.natAbs y.natAbs:Nat):Int):=by
 rw [Rat.num_divInt,Int.sign_eq_one_of_pos hy,Int.one_mul];unfold Int.gcd;rw [Nat.gcd_comm]
theorem zlf {x y:Int}(hy:0<y):(Rat.divInt x y).den=y.natAbs/Nat.gcd x.natAbs y.natAbs:=by
 rw [Rat.den_divInt,if_neg zo];unfold Int.gcd;rw [Nat.gcd_comm]
theorem fM {x:Int}{g:Nat}(h:g∣x.natAbs):x.tdiv (g:Int)=x/(g:Int):=Int.tdiv_eq_ediv_of_dvd (Int.ofNat_dvd_left.2 h)
theorem zez {y:Int}(h:0<y)(g:Nat):y/(g:Int)=((y.natAbs/g:Nat):Int):=by
 obtain ⟨m,rfl⟩:∃m:Nat,y=m:=⟨y.natAbs,zo⟩;rw [Int.natAbs_natCast];rfl
structure DenR (h:HF)(n:Nat)(d1 d2:Value)(q:Nat)(ld:List Nat):Prop where
 neg:d1=.bool false
 sl:Sl h n 1 d2 (u32s ld)
 norm:Norm ld
 val:val ld=if q=1 then 0 else q
theorem zbc (k:Nat){x y:Int}(hx:IntR h n c1 c2 x A)(hy:IntR h n d1 d2 y C)(hy0:y≠0)(hb:A.length<1000000000∧C.length<2):
  CF (cal (k+5)) 71 [.agg #[c1,c2],.agg #[d1,d2]] h n fun v h' n' w=>w=[]∧n≤n'∧Ext n h h'∧∃u1 u2 e1 e2 ln ld,v=.agg #[u1,u2,e1,e2]∧RatR h' n' u1 u2 e1 e2 (Rat.divInt x y) ln ld∧ln.length≤A.length∧ld.length≤C.length∧(u2=c2∨ya n u2)∧(e2=d2∨ya n e2):=by
 refine zk (fn:=Tryz.f71) R4 ?_;obtain ⟨q,hq⟩:∃q,q=Rat.divInt x y:=⟨_,rfl⟩;rw [←hq];refine zN ?_;refine xy (cs:=[c1,c2]) R5 ?_;refine xy (cs:=[d1,d2]) R5 ?_;refine zT R5 ?_;refine zN ?_;generalize hh:upd (upd (upd h (3*n+2) _) (3*(n+1)+2) _) (3*(n+1+1)+2) _=h1;have hx1:Ext n h h1:=by rw [←hh];intro b hb;rw [zj zo,zj zo,zj zo]
 have S1:FrS n c2 d2 h h1 (n+1+1+1) c1 c2 d1 d2 x y A C:=⟨Nat.le_refl _,hx1,⟨_,by rw [←hh,zj zo,zj zo,ze]⟩,⟨_,by rw [←hh,zj zo,ze]⟩,⟨_,by rw [←hh,ze];rfl⟩,hx.ext hx1 zo,hy.ext hx1 zo,.inl ⟨rfl,hx.sl.below⟩,.inl ⟨rfl,hy.sl.below⟩⟩;clear hh;obtain ⟨ty2,hp2⟩:=S1.b2;obtain ⟨ty3,hp3⟩:=S1.b3;repeat refine zR ?_
 refine zg R6 hp3 (v:=d1) R2 ?_;refine zN ?_;refine yo (α:=(Value×Value)×Int×Int) (fun _=>[(2,.pointer (some ⟨3*n+2,0,none⟩)),(3,.pointer (some ⟨3*(n+1)+2,0,none⟩)),(4,.pointer (some ⟨3*(n+1+1)+2,0,none⟩))]) (fun z h' n' w=>w=[]∧FrS n c2 d2 h h' n' z.1.1 c2 z.1.2 d2 z.2.1 z.2.2 A C∧0<z.2.2∧Rat.divInt z.2.1 z.2.2=q) ?_ ?_
 ·by_cases hn:y<0
  ·rw [zc (by show d1=_;rw [hy.neg,decide_eq_true hn])];refine zl [0,1,0,7,15,31] rfl ?_;refine zL (v:=.agg #[c1,c2]) R6 (zB R2 hp2 rfl zb rfl) R2 ?_;refine yK _ R7 (zai (k+2) S1.ix) ?_;rintro _ h2 n2 _ ⟨rfl,hn2,hx2,u1,rfl,i1⟩;refine ⟨rfl,hn2,?_⟩;refine zL (v:=.agg #[d1,d2]) R6 (zB R2 hp3 rfl zb rfl) ⟨(wJ (by simp)),rfl⟩ ?_;refine yK _ R7 (zai (k+2) (S1.iy.ext hx2 hn2)) ?_;rintro _ h3 n3 _ ⟨rfl,hn3,hx3,v1,rfl,i2⟩;refine ⟨rfl,hn3,?_⟩;have S3:=(S1.exts hx2 hn2).exts hx3 hn3;have i1':=i1.ext hx3 hn3;obtain ⟨e2,hq2⟩:=S3.b2;refine yT (cs:=[u1,c2]) R7 i1.ones hq2 zb (by show 3*n≤_;omega) R3 ?_;have S4:=S3.putx i1' S3.ox e2;obtain ⟨e3,hq3⟩:=S4.b3;refine yT (cs:=[v1,d2]) R7 i2.ones hq3 zb (by show 3*n≤_;omega) R3 ?_;have S5:=S4.puty (i2.off (S4.oy.off zo zo)) S4.oy e3;refine zN ?_;exact ⟨((u1,v1),-x,-y),⟨rfl,rfl,rfl,trivial⟩,rfl,S5,by show 0< -y;omega,by show Rat.divInt (-x) (-y)=q;rw [Rat.divInt_neg',Int.neg_neg,hq]⟩
  rw [za (by show d1=_;rw [hy.neg,decide_eq_false hn])];refine zN ?_;exact ⟨((c1,d1),x,y),⟨rfl,rfl,rfl,trivial⟩,rfl,S1,by show 0<y;omega,hq.symm⟩
 clear hp2 hp3 S1 hx1 h1;rintro ⟨⟨u1,v1⟩,x',y'⟩ t h1 n1 _ ⟨rfl,S,hy',hq'⟩;simp only at S hy' hq';have hqn:=zle (x:=x') hy';have hqd:=zlf (x:=x') hy';rw [hq'] at hqn hqd;refine zN ?_;obtain ⟨ty2,hp2⟩:=S.b2;obtain ⟨ty3,hp3⟩:=S.b3;refine zI (v:=.agg #[u1,c2]) R5 (zB R2 hp2 rfl zb rfl) ?_;refine zI (v:=.agg #[v1,d2]) R5 (zB R2 hp3 rfl zb rfl) ?_;refine zu _ R5 (zk9 k S.ix S.iy hb) ?_;rintro _ h2 n2 _ ⟨rfl,hn2,hx2,g1,g2,G,rfl,ig,bG,og⟩;generalize hg:Nat.gcd x'.natAbs y'.natAbs=g at*
 refine zT R5 ?_;refine zv [g1,g2] R7 ig.ones (ze _ _ _) rfl (by show 3*n≤_;have:=S.n3;omega) ?_;rw [yH];have S2:=S.exts hx2 hn2;generalize hh:upd h2 (3*n2+2) _=h3;have hx3:Ext n2 h2 h3:=by rw [←hh];exact Ext.upd zo
 have hpg:∃e,h3 (3*n2+2)=some (.row [g1,g2] e):=⟨_,by rw [←hh,ze]⟩;clear hh;obtain ⟨tg,hpg⟩:=hpg;have S3:=S2.exts hx3 zs;have ig3:=ig.ext hx3 zs;refine zN ?_;refine zI (v:=.agg #[g1,g2]) R5 (zB R2 hpg rfl zb rfl) ?_;refine z8 _ R5 (zcr (k+3) ig3 bG) ?_;rintro _ ⟨b,rfl,hb0,hb1⟩;rw [Int.natAbs_natCast] at hb0 hb1;have hgpos:0<g:=by rw [←hg];exact Nat.gcd_pos_of_pos_right _ zo
 have hgx:g∣x'.natAbs:=by rw [←hg];exact Nat.gcd_dvd_left _ _
 have hgy:g∣y'.natAbs:=by rw [←hg];exact Nat.gcd_dvd_right _ _
 have hG1:G.length≤1:=by have:=S3.iy.len_le ig (by rw [Int.natAbs_natCast];exact Nat.le_of_dvd zo hgy);omega
 refine eS R6 ?_;refine zN ?_;have hn3:=S3.n3;refine yo (α:=(Value×Value×Value×Value)×List Nat×List Nat) (fun _=>[(2,.pointer (some ⟨3*n+2,0,none⟩)),(3,.pointer (some ⟨3*(n+1)+2,0,none⟩)),(4,.pointer (some ⟨3*(n+1+1)+2,0,none⟩))]) (fun z h' n' w=>w=[]∧FrS n c2 d2 h h' n' z.1.1 z.1.2.1 z.1.2.2.1 z.1.2.2.2 q.num (q.den:Int) z.2.1 z.2.2∧z.2.1.length≤A.length∧z.2.2.length≤C.length) ?_ ?_
 ·by_cases hgt:(1:Int)<(b:Int)
  ·rw [zc (by show Value.bool (decide ((1:Int)<(b:Int)))=_;rw [decide_eq_true hgt])];refine zN ?_;obtain ⟨e2,hq2⟩:=S3.b2;refine zI (v:=.agg #[u1,c2]) R5 (zB R2 hq2 rfl zb rfl) ?_;refine zI (v:=.agg #[g1,g2]) R5 (zB R2 hpg rfl zb rfl) ?_;refine zu _ R5 (kX k S3.ix ig3 zo hb.1 hG1) ?_;rintro _ h4 n4 _ ⟨rfl,hn4,hx4,q1,q2,r1,r2,Lq,Lr,rfl,iq,ir,fq,fr⟩;repeat refine zR ?_
   have S4:=S3.exts hx4 hn4;obtain ⟨e4,hq4⟩:=S4.b2;refine zv [q1,q2] R7 iq.ones hq4 rfl (by show 3*n≤_;omega) ?_;have S5:=S4.putx iq (.inr (fq.mono zo)) e4;refine zN ?_;obtain ⟨e5,hq5⟩:=S5.b3;have hpg5:=(zj (f:=h4) (i:=3*n+2) (v:=some (.row [q1,q2] e4)) (j:=3*n2+2) zo).trans ((hx4 _ zo).trans hpg);refine zI (v:=.agg #[v1,d2]) R5 (zB R2 hq5 rfl zb rfl) ?_;refine zI (v:=.agg #[g1,g2]) R5 (zB R2 hpg5 rfl zb rfl) ?_;have og2:Off (3*n+2) g2:=og _ (by have:=S.n3;omega) (S.ox.off zo zo) (S.oy.off zo zo);refine zu _ R5 (kX k S5.iy ((ig3.ext hx4 hn4).off og2) zo zo hG1) ?_;rintro _ h6 n6 _ ⟨rfl,hn6,hx6,p1,p2,s1,s2,Lp,Ls,rfl,ip,is,fp,fs⟩;repeat refine zR ?_
   have S6:=S5.exts hx6 hn6;obtain ⟨e6,hq6⟩:=S6.b3;refine zv [p1,p2] R7 ip.ones hq6 rfl (by show 3*n≤_;omega) ?_;have S7:=S6.puty ip (.inr (fp.mono zo)) e6;refine zN ?_;rw [fM hgx,←hqn,fM hgy,show y'/(g:Int)=(q.den:Int) from by rw [hqd];exact zez hy' g] at S7;refine zK ((q1,q2,p1,p2),Lq,Lp) ⟨rfl,rfl,rfl,trivial⟩ ⟨rfl,S7,S3.ix.len_le iq ?_,S3.iy.len_le ip ?_⟩
   ·rw [Int.natAbs_tdiv];exact Nat.div_le_self _ _
   rw [Int.natAbs_tdiv];exact Nat.div_le_self _ _
  rw [za (by show Value.bool (decide ((1:Int)<(b:Int)))=_;rw [decide_eq_false hgt])];refine zN ?_;have hg1:g=1:=zo;subst hg1;rw [show ((1:Nat):Int)=1 from rfl,Int.ediv_one] at hqn;rw [Nat.div_one] at hqd;refine zK ((u1,c2,v1,d2),A,C) ⟨rfl,rfl,rfl,trivial⟩ ⟨rfl,?_,Nat.le_refl _,Nat.le_refl _⟩;show FrS n c2 d2 h h3 (n2+1) u1 c2 v1 d2 q.num (q.den:Int) A C;rw [hqn,hqd,show ((y'.natAbs:Nat):Int)=y' from zo];exact S3
 clear hqn hqd hgx hgy hgpos hb0 hb1 ig3 S3 hpg hx3 S2 ig hp2 hp3 S hx2 hn2 hn3 og;rintro ⟨⟨u1,u2,v1,v2⟩,L1,L2⟩ t h5 n5 _ ⟨rfl,S,hl1,hl2⟩;simp only at S hl1 hl2;refine zN ?_;obtain ⟨ty3,hp3⟩:=S.b3;refine zI (v:=.agg #[v1,v2]) R5 (zB R2 hp3 rfl zb rfl) ?_;refine z8 _ R5 (zcr (k+3) S.iy zo) ?_;rintro _ ⟨b,rfl,hb0,hb1⟩;rw [Int.natAbs_natCast] at hb0 hb1;refine ij R6 ?_;refine zN ?_;refine yo (α:=(Value×Value)×List Nat) (fun _=>[(2,.pointer (some ⟨3*n+2,0,none⟩)),(3,.pointer (some ⟨3*(n+1)+2,0,none⟩)),(4,.pointer (some ⟨3*(n+1+1)+2,0,none⟩))]) (fun z h' n' w=>w=[]∧n+1+1+1≤n'∧Ext n h h'∧(∃e,h' (3*n+2)=some (.row [u1,u2] e))∧(∃e,h' (3*(n+1)+2)=some (.row [z.1.1,z.1.2] e))∧(∃e,h' (3*(n+1+1)+2)=some (.row [.bool false,.slice none 0 0,.bool false,.slice none 0 0] e))∧IntR h' n' u1 u2 q.num L1∧DenR h' n' z.1.1 z.1.2 q.den z.2∧Away n c2 u2∧Away n d2 z.1.2∧z.2.length≤C.length) ?_ ?_
 ·by_cases hd:(b:Int)=1
  ·rw [zc (by show Value.bool (decide ((b:Int)=1))=_;rw [decide_eq_true hd])];refine zN ?_;refine zA (v:=.agg #[.bool false,.slice none 0 0]) R5 ?_;refine zv [.bool false,.slice none 0 0] R7 rfl hp3 rfl (by show 3*n≤_;omega) ?_;refine zN ?_;have hden:q.den=1:=hb1.1 zo;obtain ⟨n3,ext,⟨e2,b2⟩,_,⟨e4,b4⟩,ix,iy,ox,oy⟩:=S;exact zK ((.bool false,.slice none 0 0),[]) ⟨rfl,rfl,rfl,trivial⟩ ⟨rfl,n3,fun b hb=>(zj zo).trans (ext b hb),⟨e2,(zj zo).trans b2⟩,⟨_,ze _ _ _⟩,⟨e4,(zj zo).trans b4⟩,ix.off (ox.off zo zo),⟨rfl,.nil (.inl rfl),Norm.nil,by rw [if_pos hden];rfl⟩,ox,.inr trivial,Nat.zero_le _⟩
  rw [za (by show Value.bool (decide ((b:Int)=1))=_;rw [decide_eq_false hd])];refine zN ?_;have hden:q.den≠1:=fun e=>hd (by have:=hb1.2 e;omega);obtain ⟨n3,ext,b2,b3,b4,ix,iy,ox,oy⟩:=S;exact zK ((v1,v2),L2) ⟨rfl,rfl,rfl,trivial⟩ ⟨rfl,n3,ext,b2,b3,b4,ix,⟨by rw [iy.neg];simp,iy.sl,iy.norm,by rw [if_neg hden,iy.val,Int.natAbs_natCast]⟩,ox,oy,hl2⟩
 clear hp3 S hb0 hb1 hl2;rintro ⟨⟨v1,v2⟩,L2⟩ t h6 n6 _ ⟨rfl,n3,ext,⟨e2,b2⟩,⟨e3,b3⟩,⟨e4,b4⟩,ix,id,ox,oy,hl2⟩;simp only at b2 b3 b4 ix id ox oy hl2;refine zN ?_;refine zI (v:=.agg #[u1,u2]) R5 (zB R2 b2 rfl zb rfl) ?_;refine zI (v:=.agg #[v1,v2]) R5 (zB R2 b3 rfl zb rfl) ?_;refine zA (v:=.agg #[u1,u2,v1,v2]) R5 ?_;have hon:ones [u1,u2,v1,v2]=true:=by
  rw [ix.neg];show GL.ones (u2::_)=true;rw [ix.sl.ones,id.neg];show GL.ones (v2::_)=true;rw [id.sl.ones];rfl
 refine zv [u1,u2,v1,v2] R7 hon b4 rfl (by show 3*n≤_;omega) ?_;refine zN ?_;refine yP R5 (ze _ _ _) rfl ⟨rfl,by show n≤n6;omega,fun b hb=>(zj zo).trans (ext b hb),_,_,_,_,L1,L2,rfl,⟨ix.off (ox.off zo zo),id.neg,id.sl.off (oy.off zo zo),id.norm,id.val⟩,hl1,hl2,ox.or,oy.or⟩
end
section
variable {s:List UInt8}{x:Operand}{z:Value}
def AllD (s:List UInt8):Prop:=∀b∈s,48≤b.toNat∧b.toNat≤57
def dval:List UInt8→Nat:=List.foldl (fun v b=>10*v+(b.toNat-48)) 0
theorem zbt (s:List UInt8):∀v,List.foldl (fun v b=>10*v+(b.toNat-48)) v s=v*10^s.length+dval s:=by
 induction s with
 |nil=>intro v;simp [dval]
 |cons b s ih=>
  intro v;unfold dval;rw [List.foldl_cons,List.foldl_cons,ih,ih (10*0+_),List.length_cons,Nat.pow_succ,Nat.add_mul,Nat.add_mul];rw [show 10*v*10^s.length=v*(10^s.length*10) from by rw [Nat.mul_comm 10 v,Nat.mul_assoc,Nat.mul_comm 10]];omega
theorem uu (a b:List UInt8):dval (a++b)=dval a*10^b.length+dval b:=by
 conv=>lhs;unfold dval
 rw [List.foldl_append];exact zbt b (dval a)
theorem uN (a:List UInt8)(b:UInt8):dval (a++[b])=10*dval a+(b.toNat-48):=by
 rw [uu];simp [dval];omega
theorem wK (h:AllD s):dval s<10^s.length:=by
 induction s with
 |nil=>simp [dval]
 |cons b s ih=>
  have h1:=h b (by simp);have h2:=ih fun x hx=>h x (by simp [hx]);rw [show b::s=[b]++s from rfl,uu];simp only [List.length_append,List.length_singleton];rw [Nat.add_comm 1,Nat.pow_succ];have h3:dval [b]≤9:=by simp [dval];omega
  have h4:dval [b]*10^s.length≤9*10^s.length:=Nat.mul_le_mul_right _ h3;omega
theorem Norm.len_pow {L:List Nat}(h:Norm L)(hv:val L<10^i):L.length≤i:=by
 apply Classical.byContradiction;intro hn;obtain ⟨j,d,rfl⟩:=snoc (l:=L) (by intro e;rw [e] at hn;simp at hn);have hd:=h.last;rw [uW] at hv;have h1:4294967296^j.length*1≤4294967296^j.length*YtfajmfoofmienaaGreatDoor.val [d]:=Nat.mul_le_mul_left _ (by simp [YtfajmfoofmienaaGreatDoor.val];omega);have h2:4294967296^i≤4294967296^j.length:=Nat.pow_le_pow_right zo (by simp at hn;omega);have h3:10^i≤4294967296^i:=Nat.pow_le_pow_left zo _;omega
theorem AllD.take_succ {b:UInt8}(h:AllD (s.take i))(hb:s[i]?=some b)(hd:48≤b.toNat∧b.toNat≤57):AllD (s.take (i+1)):=by
 obtain ⟨hlt,rfl⟩:=List.getElem?_eq_some_iff.1 hb;rw [List.take_succ_eq_append_getElem hlt];intro x hx;rcases List.mem_append.1 hx with hx|hx
 ·exact h x hx
 rw [List.mem_singleton.1 hx];exact hd
theorem rK {b:UInt8}(hb:s[i]?=some b):s.take (i+1)=s.take i++[b]:=by
 obtain ⟨hlt,rfl⟩:=List.getElem?_eq_some_iff.1 hb;rw [List.take_succ_eq_append_getElem hlt]
section
variable {X:CtxF}{ops r:List Oper}{t:TF}{h:HF}{n:Nat}{w:List Nat}{Q:SV→Prop}{o:Oper}{d:Tmp}
theorem yf {i:Operand}{b:UInt8}(hw:zh ops t o=true∧o.dst=some d∧zm X.nt (some d)=true∧o.op=.index ty x i∧X.E.und ty=some .string∧evF t x=.string ⟨⟨s⟩⟩∧evF t i=.int ik ji∧ji=(j:Int))(hb:s[j]?=some b)
  (k:EO X ops r ⟨upd t d (.int .u8 (b.toNat:Int)),h,n,w⟩ Q):EO X ops (o::r) ⟨t,h,n,w⟩ Q:=by
 obtain ⟨hw,hd,hn,ho,hu,hx,hj,hji⟩:=hw;subst hji;refine zA ⟨hw,hd,hn,(by rw [ho];rfl),?_⟩ k;rw [ho];show jm X.E ty (evF t x) (evF t i)=_;rw [hx,hj];simp only [jm,hu,Int.toNat_natCast,hb,if_pos (Int.natCast_nonneg j)]
end
def FdR (n:Nat)(h:HF)(s:List UInt8)(v:Value)(h':HF)(n':Nat)(w:List Nat):Prop:=w=[]∧n≤n'∧Ext n h h'∧∃c1 c2 L ok,∃x:Nat,v=.tuple #[.agg #[c1,c2],.bool ok]∧IntR h' n' c1 c2 (x:Int) L∧L.length≤s.length∧ya n c2∧(AllD s∧s≠[]→ok=true∧x=dval s)∧(ok=true→AllD s∧s≠[])
theorem ug {P:Value→HF→Nat→List Nat→Prop}{e:Ex}{t:TF}{h:HF}{n:Nat}{w:List Nat}{a a2:Tmp}{e1:TypeId}{u:Value}(he:sc e=true∧fn.results.toList=[.cell a ty,.tmp a2]∧t a=.pointer (some ⟨b,0,none⟩)∧t a2=u∧GL.isAgg env ty=some true∧env.inf ty=some (sz,bt,z))(hb:h b=some (.row cs e1))(hl:cs.length=sz∧ur [.agg cs.toArray,u]=false)(hp:P (.tuple #[.agg cs.toArray,u]) h n w):RetH fn P e ⟨t,h,n,w⟩:=by
 obtain ⟨he,hr,ha,ha2,hg,hi⟩:=he;obtain ⟨hl,hf⟩:=hl;refine retH [.agg cs.toArray,u] ⟨he,?_,hf⟩ hp;rw [hr];have l1:=zB ⟨hg,hi⟩ hb rfl (show 0+sz≤cs.length by omega) (show (cs.drop 0).take sz=cs by rw [List.drop_zero,List.take_of_length_le zo]);simp only [resF,ha,ha2,l1]
theorem rA (k:Nat)(h:HF)(n:Nat)(s:List UInt8)(hs:s.length<1000000):CF (cal (k+3)) 94 [.string ⟨⟨s⟩⟩] h n (FdR n h s):=by
 refine zk (fn:=Tryz.f94) R4 ?_;refine zN ?_;refine zT R5 ?_;refine sh ?_;refine sh ?_;refine sh ?_;generalize hh:upd h (3*n+2) _=h1;have hr1:∃e,h1 (3*n+2)=some (.row [.bool false,.slice none 0 0] e):=⟨_,by rw [←hh,ze];rfl⟩;have hx1:Ext n h h1:=by rw [←hh];exact Ext.upd zo
 clear hh;refine zQ (α:=Nat×Option Addr×Nat×List Nat) (fun z=>[(0,.string ⟨⟨s⟩⟩),(2,.pointer (some ⟨3*n+2,0,none⟩)),(4,.slice z.2.1 z.2.2.2.length z.2.2.1),(5,.int .i64 (z.1:Int))])
  (fun z h' n' w'=>w'=[]∧n+1≤n'∧Ext n h h'∧(∃e,h' (3*n+2)=some (.row [.bool false,.slice none 0 0] e))∧z.1≤s.length∧AllD (s.take z.1)∧Sl h' n' 1 (.slice z.2.1 z.2.2.2.length z.2.2.1) (u32s z.2.2.2)∧Norm z.2.2.2∧val z.2.2.2=dval (s.take z.1)∧ya (n+1) (.slice z.2.1 z.2.2.2.length z.2.2.1)) (fun z=>s.length-z.1)
  (0,none,0,[]) ⟨rfl,rfl,rfl,rfl,trivial⟩ ⟨rfl,Nat.le_refl _,hx1,hr1,Nat.zero_le _,fun b hb=>absurd hb (by simp),.nil (.inl rfl),Norm.nil,rfl,trivial⟩ (by show s.length-0<LL;unfold LL;omega) ?_
 rintro ⟨i,a,c,L⟩ t h2 n2 _ ⟨rfl,hn2,hx2,⟨e2,hr2⟩,hi,hall,hsl,hnorm,hval,hfr⟩;simp only at hi hall hsl hnorm hval hfr;have hLl:L.length≤i:=hnorm.len_pow (by rw [hval];have:=wK hall;rw [List.length_take,Nat.min_eq_left hi] at this;exact this);refine zN ?_;by_cases hie:i=s.length
 ·have hts:s.take i=s:=by rw [hie,List.take_length]
  rw [hts] at hall hval;refine Zc ?_;refine st_I (ik:=.i64) (a:=(s.length:Int)) R5 ?_;refine sh ?_;refine Za ?_;repeat refine zR ?_
  refine zu _ R5 (wW (k+1) _ _ false a L.length c) ?_;rintro _ h3 n3 _ ⟨rfl,rfl,rfl,hx3⟩;refine zM ?_;refine st_B (a:= !(s==[])) R5 ?_;refine zv [.bool (false&&decide (0<L.length)),.slice a L.length c] R7 rfl (by rw [hx3 _ zo];exact hr2) rfl (by show 3*n≤_;omega) ?_;refine sh ?_;refine ug R6 (ze _ _ _) R2 ⟨rfl,by show n≤n2+1;omega,fun b hb=>(zj zo).trans ((hx3 b zo).trans (hx2 b hb)),_,_,L,_,dval s,rfl,qg ((hsl.ext hx3 zs).off (hfr.off zo)) hnorm (by rw [hval];simp) (fun _=>by rw [decide_eq_false zo]),zo,hfr.mono zo,fun hd=>⟨by simpa using hd.2,rfl⟩,fun hd=>⟨hall,by simpa using hd⟩⟩
 have hilt:i<s.length:=zo;refine Zc ?_;refine st_I (ik:=.i64) (a:=(s.length:Int)) R5 ?_;refine sh ?_;refine Zb ?_;refine sh ?_;repeat refine zR ?_
 simp only [yL,xN,zO,xD];refine yo (α:=Nat) (fun z=>[(0,.string ⟨⟨s⟩⟩),(2,.pointer (some ⟨3*n+2,0,none⟩)),(4,.slice a L.length c),(5,.int .i64 ((i+z:Nat):Int)),(6,.int .u32 ((dval ((s.drop i).take z):Nat):Int)),(7,.int .u32 ((10^z:Nat):Int))])
  (fun z h' n' w'=>h2=h'∧n'=n2∧w'=[]∧1≤z∧z≤9∧i+z≤s.length∧AllD (s.take (i+z))) ?_ ?_
 ·refine zN ?_;refine zQ (α:=Nat) (fun z=>[(0,.string ⟨⟨s⟩⟩),(2,.pointer (some ⟨3*n+2,0,none⟩)),(4,.slice a L.length c),(5,.int .i64 ((i+z:Nat):Int)),(6,.int .u32 ((dval ((s.drop i).take z):Nat):Int)),(7,.int .u32 ((10^z:Nat):Int)),(8,.int .i64 (z:Int))])
   (fun z h' n' w'=>h2=h'∧n'=n2∧w'=[]∧z≤9∧i+z≤s.length∧AllD (s.take (i+z))) (fun z=>9-z) 0 ⟨rfl,rfl,rfl,rfl,rfl,rfl,rfl,trivial⟩ ⟨rfl,rfl,rfl,Nat.zero_le _,by show i+0≤s.length;omega,hall⟩ (by show 9-0<LL;decide) ?_
  rintro z t h3 n3 _ ⟨rfl,rfl,rfl,hz9,hiz,hallz⟩;refine zN ?_;by_cases hz:z=9
  ·subst hz;refine sh ?_;refine Za ?_;exact zK 9 ⟨rfl,rfl,rfl,rfl,rfl,rfl,trivial⟩ ⟨rfl,rfl,rfl,by decide,by decide,hiz,hallz⟩
  have hz8:z≤8:=zo;by_cases hie2:i+z=s.length
  ·refine zM ?_;refine qG R6 zo ?_;refine Zc ?_;refine zM ?_;refine st_I (ik:=.i64) (a:=(s.length:Int)) R5 ?_;refine sh ?_;refine Za ?_;exact zK z ⟨rfl,rfl,rfl,rfl,rfl,rfl,trivial⟩ ⟨rfl,rfl,rfl,zo,hz9,hiz,hallz⟩
  have hizlt:i+z<s.length:=zo;obtain ⟨b,hb⟩:∃b,s[i+z]?=some b:=⟨s[i+z],List.getElem?_eq_getElem hizlt⟩;refine zM ?_;refine qG R6 zo ?_;refine Zc ?_;refine zM ?_;refine st_I (ik:=.i64) (a:=(s.length:Int)) R5 ?_;refine sh ?_;refine Zb ?_;refine Zc ?_;refine yf (j:=i+z) R8 hb ?_;have hmem:b∈s:=List.mem_of_getElem? hb;by_cases hb1:b.toNat<48
  ·refine sh ?_;refine Zb ?_;refine zA (v:=.agg #[.bool false,.slice none 0 0]) R5 ?_;refine zv [.bool false,.slice none 0 0] R7 rfl hr2 rfl (by show 3*n≤_;omega) ?_;refine sh ?_;refine ug R6 (ze _ _ _) R2 ⟨rfl,by show n≤n3;omega,fun b hb=>(zj zo).trans (hx2 b hb),_,_,[],false,0,rfl,⟨rfl,.nil (.inl rfl),Norm.nil,rfl⟩,Nat.zero_le _,trivial,fun hd=>by have:=hd.1 b hmem;omega,fun hd=>by cases hd⟩
  repeat refine zR ?_
  refine yf (j:=i+z) R8 hb ?_;by_cases hb2:57<b.toNat
  ·refine sh ?_;refine Zb ?_;refine zA (v:=.agg #[.bool false,.slice none 0 0]) R5 ?_;refine zv [.bool false,.slice none 0 0] R7 rfl hr2 rfl (by show 3*n≤_;omega) ?_;refine sh ?_;refine ug R6 (ze _ _ _) R2 ⟨rfl,by show n≤n3;omega,fun b hb=>(zj zo).trans (hx2 b hb),_,_,[],false,0,rfl,⟨rfl,.nil (.inl rfl),Norm.nil,rfl⟩,Nat.zero_le _,trivial,fun hd=>by have:=hd.1 b hmem;omega,fun hd=>by cases hd⟩
  refine sh ?_;refine Za ?_;have hsub:AllD ((s.drop i).take z):=fun x hx=>hallz x (by rw [List.take_add];exact List.mem_append.2 (.inr hx));have hvlt:=wK hsub;have hlen:((s.drop i).take z).length=z:=by rw [List.length_take,List.length_drop];omega
  rw [hlen] at hvlt;have hp8:10^z≤10^8:=Nat.pow_le_pow_right zo hz8;have hnext:(s.drop i).take (z+1)=(s.drop i).take z++[b]:=rK (by rw [List.getElem?_drop];exact hb);have hdn:dval ((s.drop i).take (z+1))=dval ((s.drop i).take z)*10+(b.toNat-48):=by rw [hnext,uN];omega
  have hpn:10^(z+1)=10^z*10:=Nat.pow_succ _ _;generalize hV:dval ((s.drop i).take z)=V at hvlt hdn;generalize hF:10^z=F at hvlt hp8 hpn;rw [show (10:Nat)^8=100000000 from rfl] at hp8;refine zM ?_;refine yI (a:=V) (b:=10) R6 zo ?_;refine Zc ?_;refine yf (j:=i+z) R8 hb ?_;refine pG (a:=b.toNat) (b:=48) R6 zo ?_;refine pJ (c:=b.toNat-48) R7 zo ?_;refine yA (a:=V*10) (b:=b.toNat-48) R6 zo ?_;refine zM ?_;refine yI (a:=F) (b:=10) R6 zo ?_;refine sh ?_;refine sh ?_;refine sh ?_;refine goOn (z+1) (by show 9-(z+1)<9-z;omega) ⟨rfl,rfl,rfl,by show Value.int .i64 _=Value.int .i64 _;congr 1,by show Value.int .u32 _=Value.int .u32 _;rw [hdn],by show Value.int .u32 _=Value.int .u32 _;rw [hpn],by show Value.int .i64 _=Value.int .i64 _;congr 1,trivial⟩ ⟨rfl,rfl,rfl,by show z+1≤9;omega,by show i+(z+1)≤s.length;omega,AllD.take_succ hallz hb zo⟩
 rintro z t _ n2 _ ⟨rfl,rfl,rfl,hz1,hz9,hiz,hallz⟩;have hsub:AllD ((s.drop i).take z):=fun x hx=>hallz x (by rw [List.take_add];exact List.mem_append.2 (.inr hx));have hvlt:=wK hsub;have hlen:((s.drop i).take z).length=z:=by rw [List.length_take,List.length_drop];omega
 have hfull:dval (s.take (i+z))=dval (s.take i)*10^z+dval ((s.drop i).take z):=by rw [List.take_add,uu,hlen]
 rw [hlen] at hvlt;have hp9:10^z≤10^9:=Nat.pow_le_pow_right zo hz9;generalize hV:dval ((s.drop i).take z)=V at hvlt hfull;generalize hF:10^z=F at hvlt hp9 hfull;rw [show (10:Nat)^9=1000000000 from rfl] at hp9;refine zN ?_;refine Zc ?_;refine wn (cs:=[.int .u32 (F:Int)]) R5 ?_;have hmul:=jd k (h:=upd h2 (3*n2+2) (some (.row [.int .u32 (F:Int)] 151))) (n:=n2+1) (A:=L) (C:=[F]) (hsl.ext (Ext.upd zo) (Nat.le_succ n2)) (Sl.own (O:=[F]) (len:=1) (cap:=1) (ze _ _ _) zo rfl (Nat.le_refl _)) hnorm.1 (fun x hx=>by simp at hx;omega) (by simp;omega);refine zu _ R5 hmul ?_;rintro v4 h4 n4 w4 ⟨L4,⟨rfl,hn4,hx4,a4,c4,rfl,hs4,hnorm4,hf4⟩,hv4⟩;refine zM ?_;refine wn (cs:=[.int .u32 (V:Int)]) R5 ?_;have htr:=tM (k+1) (l:=[V]) (h:=upd h4 (3*n4+2) (some (.row [.int .u32 (V:Int)] 151))) (n:=n4+1) (by simp) (Sl.own (O:=[V]) (len:=1) (cap:=1) (ze _ _ _) zo rfl (Nat.le_refl _));refine zu _ R5 htr ?_;rintro _ _ _ _ ⟨e5,e6,rfl,rfl,hs5⟩;subst e5 e6;have hvF:val [F]=F:=by simp [val]
 rw [hvF] at hv4;have hL4:L4.length<1000000000:=by
  have h1:=wK hall;rw [List.length_take,Nat.min_eq_left hi] at h1;have h2:=hnorm4.len_pow (i:=i+z) (by rw [hv4,hval,Nat.pow_add,hF];exact Nat.mul_lt_mul_of_pos_right h1 (by rw [←hF];exact Nat.pow_pos zo));omega
 have hadd:=jJ k (h:=upd h4 (3*n4+2) (some (.row [.int .u32 (V:Int)] 151))) (n:=n4+1) (A:=L4) (C:=yC [V]) (hs4.ext (Ext.upd zo) (Nat.le_succ n4)) hs5 hnorm4.1 (kB _ (fun x hx=>by simp at hx;omega)) ⟨hL4,by have:=wg [V];simp at this;omega⟩;refine zu _ R5 hadd ?_;rintro v6 h6 n6 w6 ⟨L6,⟨rfl,hn6,hx6,a6,c6,rfl,hs6,hnorm6,hf6⟩,hv6⟩;refine sh ?_;refine goOn (i+z,a6,c6,L6) (by show s.length-(i+z)<s.length-i;omega) ⟨rfl,rfl,rfl,rfl,trivial⟩ ⟨rfl,by show n+1≤n6;omega,fun b hb=>?_,⟨e2,?_⟩,hiz,hallz,hs6,hnorm6,?_,hf6.mono zo⟩
 ·exact (hx6 b zo).trans ((zj zo).trans ((hx4 b zo).trans ((zj zo).trans (hx2 b hb))))
 ·exact (hx6 _ zo).trans ((zj zo).trans ((hx4 _ zo).trans ((zj zo).trans hr2)))
 show val L6=dval (s.take (i+z));rw [hv6,hv4,hval,hfull,wz];simp [val]
end
section
def len8:List UInt8:=[0,1,2,2,3,3,3,3,4,4,4,4,4,4,4,4,5,5,5,5,5,5,5,5,5,5,5,5,5,5,5,5,6,6,6,6,6,6,6,6,6,6,6,6,6,6,6,6,6,6,6,6,6,6,6,6,6,6,6,6,6,6,6,6,7,7,7,7,7,7,7,7,7,7,7,7,7,7,7,7,7,7,7,7,7,7,7,7,7,7,7,7,7,7,7,7,7,7,7,7,7,7,7,7,7,7,7,7,7,7,7,7,7,7,7,7,7,7,7,7,7,7,7,7,7,7,7,7,8,8,8,8,8,8,8,8,8,8,8,8,8,8,8,8,8,8,8,8,8,8,8,8,8,8,8,8,8,8,8,8,8,8,8,8,8,8,8,8,8,8,8,8,8,8,8,8,8,8,8,8,8,8,8,8,8,8,8,8,8,8,8,8,8,8,8,8,8,8,8,8,8,8,8,8,8,8,8,8,8,8,8,8,8,8,8,8,8,8,8,8,8,8,8,8,8,8,8,8,8,8,8,8,8,8,8,8,8,8,8,8,8,8,8,8,8,8,8,8,8,8,8,8,8,8,8,8]
theorem zim:∀i,i<256→∃b,len8[i]?=some b∧b.toNat≤8∧i<2^b.toNat∧(i≠0→2^b.toNat≤2*i):=by
 intro i hi;have h:∀i:Fin 256,(len8[i.val]?).any (fun b=>decide (b.toNat≤8∧i.val<2^b.toNat∧(i.val≠0→2^b.toNat≤2*i.val)))=true:=by decide+kernel
 have:=h ⟨i,hi⟩;rw [Option.any_eq_true] at this;obtain ⟨b,h1,h2⟩:=this;exact ⟨b,h1,of_decide_eq_true h2⟩
theorem zei {x m i L:Nat}(hi:x/2^m=i)(h1:i<2^L)(h2:i≠0→2^L≤2*i)(h3:m=0∨i≠0):x<2^(m+L)∧(x≠0→2^(m+L)≤2*x):=by
 have hp:0<2^m:=Nat.pow_pos zd;have hm:=Nat.div_add_mod x (2^m);have hr:=Nat.mod_lt x hp;rw [hi] at hm;rw [Nat.pow_add];constructor
 ·have:2^m*(i+1)≤2^m*2^L:=Nat.mul_le_mul_left _ h1;rw [Nat.mul_add,Nat.mul_one] at this;omega
 intro hx;have hi0:i≠0:=by
  rcases h3 with rfl|h3
  ·rw [Nat.pow_zero,Nat.div_one] at hi;omega
  exact h3
 have:=Nat.mul_le_mul_left (2^m) (h2 hi0);rw [Nat.mul_left_comm] at this;omega
theorem fG (k:Nat)(h:HF)(n:Nat){x:Nat}(hx:x<18446744073709551616):VF (cal (k+1)) 218 [.int .u64 (x:Int)] h n fun v=>∃m:Nat,v=.int .i64 (m:Int)∧m≤64∧x<2^m∧(x≠0→2^m≤2*x):=by
 refine zw (fn:=Tryz.f218) R4 ?_;have dd:∀m s,x/2^m/2^s=x/2^(m+s):=fun m s=>by rw [Nat.div_div_eq_div_mul,←Nat.pow_add]
 refine zN ?_;refine sh ?_;refine sh ?_;refine yo (α:=Nat×Nat) (fun z=>[(0,.int .u64 (z.2:Int)),(2,.int .i64 (z.1:Int))]) (fun z h' n' w=>h=h'∧n=n'∧w=[]∧x/2^z.1=z.2∧z.2<4294967296∧z.1≤32∧(z.1=0∨z.2≠0)) ?_ ?_
 ·by_cases hge:4294967296≤x
  ·rw [zc (by show Value.bool (decide _)=_;rw [decide_eq_true zo])];refine Zf ?_;refine yr (a:=x) (s:=32) R6 zd ?_;refine sh ?_;refine sh ?_;exact zK (32,x/2^32) ⟨rfl,rfl,trivial⟩ ⟨rfl,rfl,rfl,rfl,by show x/2^32<_;omega,Nat.le_refl 32,.inr (by show x/2^32≠0;omega)⟩
  rw [za (by show Value.bool (decide _)=_;rw [decide_eq_false zo])];refine zN ?_;exact zK (0,x) ⟨rfl,rfl,trivial⟩ ⟨rfl,rfl,rfl,by show x/2^0=x;rw [Nat.pow_zero,Nat.div_one],by show x<_;omega,Nat.zero_le 32,.inl rfl⟩
 rintro ⟨m,i⟩ t _ _ _ ⟨rfl,rfl,rfl,h1,h2,h3,h4⟩;simp only at h1 h2 h3 h4;refine zN ?_;refine sh ?_;refine yo (α:=Nat×Nat) (fun z=>[(0,.int .u64 (z.2:Int)),(2,.int .i64 (z.1:Int))]) (fun z h' n' w=>h=h'∧n=n'∧w=[]∧x/2^z.1=z.2∧z.2<65536∧z.1≤48∧(z.1=0∨z.2≠0)) ?_ ?_
 ·by_cases hge:65536≤i
  ·rw [zc (by show Value.bool (decide _)=_;rw [decide_eq_true zo])];refine Zf ?_;refine yr (a:=i) (s:=16) R6 zd ?_;refine sh ?_;refine sh ?_;exact zK (m+16,i/2^16) ⟨rfl,rfl,trivial⟩ ⟨rfl,rfl,rfl,by show x/2^(m+16)=i/2^16;rw [←h1,dd],by show i/2^16<_;omega,by show m+16≤48;omega,.inr (by show i/2^16≠0;omega)⟩
  rw [za (by show Value.bool (decide _)=_;rw [decide_eq_false zo])];refine zN ?_;exact zK (m,i) ⟨rfl,rfl,trivial⟩ ⟨rfl,rfl,rfl,h1,by show i<_;omega,by show m≤48;omega,h4⟩
 clear h1 h2 h3 h4;rintro ⟨m,i⟩ t _ _ _ ⟨rfl,rfl,rfl,h1,h2,h3,h4⟩;simp only at h1 h2 h3 h4;refine zN ?_;refine sh ?_;refine yo (α:=Nat×Nat) (fun z=>[(0,.int .u64 (z.2:Int)),(2,.int .i64 (z.1:Int))]) (fun z h' n' w=>h=h'∧n=n'∧w=[]∧x/2^z.1=z.2∧z.2<256∧z.1≤56∧(z.1=0∨z.2≠0)) ?_ ?_
 ·by_cases hge:256≤i
  ·rw [zc (by show Value.bool (decide _)=_;rw [decide_eq_true zo])];refine Zf ?_;refine yr (a:=i) (s:=8) R6 zd ?_;refine sh ?_;refine sh ?_;exact zK (m+8,i/2^8) ⟨rfl,rfl,trivial⟩ ⟨rfl,rfl,rfl,by show x/2^(m+8)=i/2^8;rw [←h1,dd],by show i/2^8<_;omega,by show m+8≤56;omega,.inr (by show i/2^8≠0;omega)⟩
  rw [za (by show Value.bool (decide _)=_;rw [decide_eq_false zo])];refine zN ?_;exact zK (m,i) ⟨rfl,rfl,trivial⟩ ⟨rfl,rfl,rfl,h1,by show i<_;omega,by show m≤56;omega,h4⟩
 clear h1 h2 h3 h4;rintro ⟨m,i⟩ t _ _ _ ⟨rfl,rfl,rfl,h1,h2,h3,h4⟩;simp only at h1 h2 h3 h4;obtain ⟨b,hb,hb8,hb1,hb2⟩:=zim i h2;refine zN ?_;refine Zc ?_;refine rP (a:=i) R7 ?_;rw [Nat.mod_eq_of_lt h2];refine yf (s:=len8) (j:=i) (b:=b) R8 hb ?_;refine wF (a:=(b.toNat:Int)) R7 zo ?_;refine sh ?_;obtain ⟨g1,g2⟩:=zei h1 hb1 hb2 h4;exact retF _ rfl (zi rfl) R2 ⟨m+b.toNat,rfl,zo,g1,g2⟩
theorem zii (k:Nat)(h:HF)(n:Nat){x:Nat}(hx:x<18446744073709551616)(h0:x≠0):VF (cal (k+2)) 210 [.int .u64 (x:Int)] h n fun v=>∃s:Nat,v=.int .i64 (s:Int)∧s<64∧9223372036854775808≤x*2^s∧x*2^s<18446744073709551616:=by
 refine zw (fn:=Tryz.f210) R4 ?_;refine zN ?_;refine sh ?_;repeat refine zR ?_
 refine z8 _ R5 (fG k h n hx) ?_;rintro _ ⟨m,rfl,hm,h1,h2⟩;refine sh ?_;have hm1:m≠0:=fun e=>by subst e;simp at h1;omega
 refine retF _ rfl (zi rfl) R2 ⟨64-m,by show Value.int .i64 _=Value.int .i64 _;congr 1;omega,zo,?_,?_⟩
 ·have h3:=Nat.mul_le_mul_right (2^(64-m)) (h2 h0);rw [←Nat.pow_add,show m+(64-m)=64 from zo,Nat.mul_assoc] at h3;have e64:(2:Nat)^64=18446744073709551616:=rfl;omega
 have h3:=Nat.mul_lt_mul_of_pos_right h1 (Nat.pow_pos (n:=64-m) (show 0<2 by decide));rw [←Nat.pow_add,show m+(64-m)=64 from zo] at h3;exact h3
end
section
theorem zb5 {U y s Q r:Nat}(h:U*2^s=Q*(y*2^s)+r)(hr:r<y*2^s):U/y=Q∧U%y=r/2^s:=by
 have hp:0<2^s:=Nat.pow_pos zd;have hy:0<y:=Nat.pos_of_ne_zero fun e=>by rw [e,Nat.zero_mul] at hr;omega
 have h1:U*2^s/(y*2^s)=Q:=by
  rw [h,Nat.add_comm,Nat.add_mul_div_right _ _ zo,Nat.div_eq_of_lt hr,Nat.zero_add]
 have h2:U*2^s%(y*2^s)=r:=by
  rw [h,Nat.add_comm,Nat.add_mul_mod_self_right,Nat.mod_eq_of_lt hr]
 rw [Nat.mul_div_mul_right _ _ hp] at h1;rw [Nat.mul_mod_mul_right] at h2;exact ⟨h1,by rw [←h2,Nat.mul_div_cancel _ hp]⟩
theorem an {lo s:Nat}(hs:s≤64):lo*2^s=lo/2^(64-s)*18446744073709551616+lo*2^s%18446744073709551616:=by
 have e:lo*2^s/18446744073709551616=lo/2^(64-s):=by
  rw [show (18446744073709551616:Nat)=2^(64-s)*2^s from by rw [←Nat.pow_add,show 64-s+s=64 from zo],Nat.mul_div_mul_right _ _ (Nat.pow_pos zd)]
 have:=Nat.div_add_mod (lo*2^s) 18446744073709551616;rw [e,Nat.mul_comm] at this;exact this.symm
theorem zkz {a b s:Nat}(hb:b<2^s):a*2^s|||b=a*2^s+b:=by
 have:=Nat.shiftLeft_add_eq_or_of_lt hb a;rw [Nat.shiftLeft_eq] at this;exact this.symm
theorem ck {top N q1 q0 r1 r0 Y Z:Nat}(h1:q1*Y+r1=top*4294967296+N/4294967296)(h2:q0*Y+r0=r1*4294967296+N%4294967296)(hZ:Z=Y):top*18446744073709551616+N=(q1*4294967296+q0)*Z+r0:=by
 subst hZ;have e:(q1*4294967296+q0)*Z=q1*Z*4294967296+q0*Z:=by rw [Nat.add_mul,Nat.mul_right_comm]
 rw [e];omega
set_option maxRecDepth 100000
theorem fV (k:Nat)(h:HF)(n:Nat){hi lo y:Nat}(hhi:hi<y)(hlo:lo<18446744073709551616)(hy:y<18446744073709551616):VF (cal (k+3)) 216 [.int .u64 (hi:Int),.int .u64 (lo:Int),.int .u64 (y:Int)] h n fun v=>v=.tuple #[.int .u64 (((hi*18446744073709551616+lo)/y:Nat):Int),.int .u64 (((hi*18446744073709551616+lo)%y:Nat):Int)]:=by
 refine zw (fn:=Tryz.f216) R4 ?_;refine zN ?_;refine sh ?_;refine sh ?_;refine Za ?_;refine sh ?_;refine Za ?_;by_cases h0:hi=0
 ·subst h0;refine sh ?_;refine Zb ?_;rw [vh rfl];refine Zc ?_;refine vu (a:=lo) (b:=y) R6 zo ?_;refine Zc ?_;refine rO (a:=lo) (b:=y) R6 zo ?_;refine sh ?_;exact retF [.int .u64 _,.int .u64 _] rfl rfl R2 (by rw [Nat.zero_mul,Nat.zero_add];rfl)
 refine sh ?_;refine Za ?_;refine zM ?_;refine z8 _ R5 (zii k h n hy zo) ?_;rintro _ ⟨s,rfl,hs,hY1,hY2⟩;refine tR (c:=s) R7 zo ?_;refine sh ?_;refine Zc ?_;refine vt (a:=y) (s:=s) R6 zo ?_;rw [Nat.mod_eq_of_lt hY2];have hp:0<2^s:=Nat.pow_pos zd;have hhs:hi*2^s+2^s≤y*2^s:=by
  have:=Nat.mul_le_mul_right (2^s) (show hi+1≤y from hhi);rw [Nat.add_mul,Nat.one_mul] at this;exact this
 have hlow:lo/2^(64-s)<2^s:=by
  rw [Nat.div_lt_iff_lt_mul (Nat.pow_pos zd),←Nat.pow_add,show s+(64-s)=64 from zo];exact hlo
 have hsp:=an (lo:=lo) (s:=s) zo;have hmod:lo*2^s%18446744073709551616<18446744073709551616:=Nat.mod_lt _ zd;have hU:(hi*18446744073709551616+lo)*2^s=(hi*2^s+lo/2^(64-s))*18446744073709551616+lo*2^s%18446744073709551616:=by
  rw [Nat.add_mul,Nat.add_mul,Nat.mul_right_comm];omega
 clear hsp;refine sh ?_;generalize hYe:y*2^s=Y at hY1 hY2 hhs ⊢;repeat refine zW ?_
 refine zN ?_;repeat refine zW ?_
 refine zN ?_;refine Zc ?_;refine vt (a:=hi) (s:=s) R6 zo ?_;rw [Nat.mod_eq_of_lt (show hi*2^s<18446744073709551616 by omega)];refine Zc ?_;refine xq (a:=64) (b:=s) R6 zo ?_;refine yr (a:=lo) (s:=64-s) R6 zo ?_;refine uG (a:=hi*2^s) (b:=lo/2^(64-s)) R6 zo ?_;rw [zkz hlow];have htop:hi*2^s+lo/2^(64-s)<Y:=zo;generalize hi*2^s+lo/2^(64-s)=top at hU htop ⊢;refine sh ?_;refine Zc ?_;refine vt (a:=lo) (s:=s) R6 zo ?_;generalize lo*2^s%18446744073709551616=N at hU hmod ⊢;refine sh ?_;repeat refine zW ?_
 refine zN ?_;repeat refine zW ?_
 refine zN ?_;obtain ⟨v1,hv1⟩:∃v1,v1=Y/4294967296:=⟨_,rfl⟩;obtain ⟨v2,hv2⟩:∃v2,v2=Y%4294967296:=⟨_,rfl⟩;have hYv:v1*4294967296+v2=Y:=zo;rw [←hv1,←hv2];refine Zc ?_;refine vu (a:=top) (b:=v1) R6 zo ?_;refine sh ?_;have hdm:top/v1*v1+top%v1=top:=by rw [Nat.mul_comm];exact Nat.div_add_mod _ _
 refine Zc ?_;refine zM ?_;refine xK (a:=top/v1) (b:=v1) R6 zo ?_;refine xq (a:=top) (b:=top/v1*v1) R6 zo ?_;rw [show top-top/v1*v1=top%v1 from zo];repeat refine zR ?_
 simp only [xD,vK,yL,xN,zO];refine cn (va:=.int .u64 (Y:Int)) (vb:=.int .u64 (s:Int)) (vc:=.int .u64 (top:Int)) (vd:=.int .u64 ((N%4294967296:Nat):Int)) (v1:=v1) (v2:=v2) (w2:=N/4294967296) (top:=top) zo zo zo zo rfl ⟨rfl,rfl,rfl,rfl,rfl,rfl,rfl,rfl,rfl,trivial⟩ ?_;intro t2 q1 hq1e hA;rw [←vI hA];clear hA;rw [hYv] at hq1e;obtain ⟨r1,hr1e⟩:∃r1,r1=(top*4294967296+N/4294967296)%Y:=⟨_,rfl⟩;have hT1:=Nat.div_add_mod (top*4294967296+N/4294967296) Y;have hr1:=Nat.mod_lt (top*4294967296+N/4294967296) (show 0<Y by omega);rw [←hr1e] at hr1;rw [←hq1e,←hr1e] at hT1;clear hq1e hr1e;rw [Nat.mul_comm] at hT1;simp only [xD,vK,yL,xN,zO];refine zM ?_;refine xY (a:=top) (b:=4294967296) R6 ?_;refine zM ?_;refine pM (a:=top*4294967296%18446744073709551616) (b:=N/4294967296) R6 ?_;refine Zc ?_;refine xY (a:=q1) (b:=Y) R6 ?_;refine ud (a:=(top*4294967296%18446744073709551616+N/4294967296)%18446744073709551616) (b:=q1*Y%18446744073709551616) R6 zo ?_;rw [show ((top*4294967296%18446744073709551616+N/4294967296)%18446744073709551616+18446744073709551616-q1*Y%18446744073709551616)%18446744073709551616=r1 from zo];repeat refine zR ?_
 simp only [xD,vK,yL,xN,zO];refine Zc ?_;refine vu (a:=r1) (b:=v1) R6 zo ?_;repeat refine zR ?_
 simp only [xD,vK,yL,xN,zO];have hdm:r1/v1*v1+r1%v1=r1:=by rw [Nat.mul_comm];exact Nat.div_add_mod _ _
 refine Zc ?_;refine zM ?_;refine xK (a:=r1/v1) (b:=v1) R6 zo ?_;refine xq (a:=r1) (b:=r1/v1*v1) R6 zo ?_;rw [show r1-r1/v1*v1=r1%v1 from zo];repeat refine zR ?_
 simp only [xD,vK,yL,xN,zO];refine cm (va:=.int .u64 (Y:Int)) (vb:=.int .u64 (s:Int)) (vc:=.int .u64 (q1:Int)) (vd:=.int .u64 (r1:Int)) (v1:=v1) (v2:=v2) (w2:=N%4294967296) (top:=r1) zo zo zo zo rfl ⟨rfl,rfl,rfl,rfl,rfl,rfl,rfl,rfl,rfl,trivial⟩ ?_;intro t3 q0 hq0e hA;rw [←vI hA];clear hA;rw [hYv] at hq0e;obtain ⟨r0,hr0e⟩:∃r0,r0=(r1*4294967296+N%4294967296)%Y:=⟨_,rfl⟩;have hT2:=Nat.div_add_mod (r1*4294967296+N%4294967296) Y;have hr2:=Nat.mod_lt (r1*4294967296+N%4294967296) (show 0<Y by omega);have hq0:(r1*4294967296+N%4294967296)/Y<4294967296:=by
  rw [Nat.div_lt_iff_lt_mul zo];have:(r1+1)*4294967296≤Y*4294967296:=Nat.mul_le_mul_right _ hr1;rw [Nat.mul_comm 4294967296];omega
 rw [←hq0e] at hq0;rw [←hr0e] at hr2;rw [←hq0e,←hr0e] at hT2;clear hq0e hr0e;have hq1:q1<4294967296:=by
  apply Classical.byContradiction;intro hn;have h1:4294967296*Y≤q1*Y:=Nat.mul_le_mul_right _ zo;have h2:(top+1)*4294967296≤Y*4294967296:=Nat.mul_le_mul_right _ htop;omega
 rw [Nat.mul_comm] at hT2;refine Zf ?_;refine xK (a:=q1) (b:=4294967296) R6 zo ?_;refine zM ?_;refine ws (a:=q1*4294967296) (b:=q0) R6 zo ?_;refine zM ?_;refine xY (a:=r1) (b:=4294967296) R6 ?_;refine zM ?_;refine pM (a:=r1*4294967296%18446744073709551616) (b:=N%4294967296) R6 ?_;refine Zc ?_;refine xY (a:=q0) (b:=Y) R6 ?_;refine ud (a:=(r1*4294967296%18446744073709551616+N%4294967296)%18446744073709551616) (b:=q0*Y%18446744073709551616) R6 zo ?_;rw [show ((r1*4294967296%18446744073709551616+N%4294967296)%18446744073709551616+18446744073709551616-q0*Y%18446744073709551616)%18446744073709551616=r0 from zo];refine zM ?_;refine yr (a:=r0) (s:=s) R6 zo ?_;refine sh ?_;have hfin:=zb5 (U:=hi*18446744073709551616+lo) (y:=y) (s:=s) (Q:=q1*4294967296+q0) (r:=r0) (hU.trans (ck hT1 hT2 hYe)) (by rw [hYe];exact hr2);refine retF [.int .u64 _,.int .u64 _] rfl rfl R2 ?_;rw [hfin.1,hfin.2];rfl
end
section
variable {cap:Nat}{a:Option Addr}
theorem zdn (j:Nat)(q:List Nat)(d:Nat):(List.replicate (j+1) 0++q).set j d=List.replicate j 0++d::q:=by
 rw [List.replicate_succ',List.append_assoc,List.set_append_right _ _ (by simp),List.length_replicate,Nat.sub_self];rfl
theorem ky {r Vq a:Nat}(hd:0<d)(hV:V=d*Vq+r):(a+18446744073709551616*V)/d=(r*18446744073709551616+a)/d+18446744073709551616*Vq∧(a+18446744073709551616*V)%d=(r*18446744073709551616+a)%d:=by
 have e:a+18446744073709551616*V=(r*18446744073709551616+a)+d*(18446744073709551616*Vq):=by
  rw [hV,Nat.mul_add,Nat.mul_left_comm];omega
 rw [e];exact ⟨Nat.add_mul_div_left _ _ hd,Nat.add_mul_mod_self_left _ _ _⟩
theorem zg6 {r a:Nat}(hr:r<d)(ha:a<18446744073709551616):(r*18446744073709551616+a)/d<18446744073709551616:=by
 rw [Nat.div_lt_iff_lt_mul zo];have:(r+1)*18446744073709551616≤d*18446744073709551616:=Nat.mul_le_mul_right _ hr;rw [Nat.mul_comm 18446744073709551616];omega
theorem bh {l:List Nat}{a:Nat}(h:l[j]?=some a):wv (l.drop j)=a+18446744073709551616*wv (l.drop (j+1)):=by
 rw [xR h];rfl
theorem dk (k:Nat){l:List Nat}(hb:l.length<1099511627)(hl:WdD l)(hd:0<d∧d<18446744073709551616)(hv:Sl h n 1 (.slice a len cap) (u64s l)):
  VF (cal (k+4)) 186 [.slice a len cap,.int .u64 (d:Int)] h n fun v=>v=.int .u64 ((wv l%d:Nat):Int):=by
 refine zw (fn:=Tryz.f186) R4 ?_;have hlen0:=hv.lenW;subst hlen0;refine zN ?_;refine sh ?_;refine sh ?_;refine sh ?_;refine zQ (α:=Nat×Nat) (fun x=>[(0,.slice a l.length cap),(1,.int .u64 (d:Int)),(5,.int .u64 (x.2:Int)),(6,.int .i64 ((x.1:Int)-1))])
  (fun x h' n' w=>h=h'∧n=n'∧w=[]∧x.1≤l.length∧x.2=wv (l.drop x.1)%d) (fun x=>x.1)
  (l.length,0) ⟨rfl,rfl,rfl,rfl,trivial⟩ ⟨rfl,rfl,rfl,Nat.le_refl _,by rw [List.drop_length];exact (Nat.zero_mod _).symm⟩ (by show l.length<LL;unfold LL;omega) ?_
 rintro ⟨j,r⟩ t _ _ _ ⟨rfl,rfl,rfl,hj,hr⟩;simp only at hj hr;have hrd:r<d:=by rw [hr];exact Nat.mod_lt _ hd.1
 refine zN ?_;cases j with
 |zero=>
  refine sh ?_;refine Za ?_;refine sh ?_;exact retF _ rfl (zi rfl) R2 (by rw [hr,List.drop_zero];rfl)
 |succ j=>
  obtain ⟨x,hx⟩:∃x,l[j]?=some x:=⟨l[j]'zo,List.getElem?_eq_getElem zo⟩;have hx':=hl.get hx;refine sh ?_;refine Zb ?_;repeat refine zR ?_
  refine xi (f:=fun d:Nat=>Value.int .u64 (d:Int)) (j:=j) R7 hv ⟨rfl,zo⟩ hx (fun _=>rfl) R4 fun _=>?_;repeat refine zR ?_
  refine z8 _ R5 (fV k h n hrd hx' hd.2) ?_;rintro _ rfl;refine sh ?_;refine sh ?_;refine goOn (j,(r*18446744073709551616+x)%d) (by show j<j+1;omega) ⟨rfl,rfl,rfl,by show Value.int .i64 _=Value.int .i64 _;congr 1;omega,trivial⟩ ⟨rfl,rfl,rfl,by show j≤_;omega,?_⟩;show _%d=wv (l.drop j)%d;rw [bh hx,(ky (V:=wv (l.drop (j+1))) (Vq:=wv (l.drop (j+1))/d) (r:=r) (a:=x) hd.1 (by rw [hr];exact (Nat.div_add_mod _ _).symm)).2]
theorem cf (k:Nat){l:List Nat}(hb:l.length<1099511627)(hl:WdD l)(hd:0<d∧d<18446744073709551616)(hv:Sl h n 1 (.slice a len cap) (u64s l)):
  CF (cal (k+4)) 238 [.slice a len cap,.int .u64 (d:Int)] h n fun v h' n' w=>∃v1 L,v=.tuple #[v1,.int .u64 ((wv l%d:Nat):Int)]∧ResW n h v1 h' n' w L∧wv L=wv l/d∧L.length≤l.length∧ya n v1:=by
 refine zk (fn:=Tryz.f238) R4 ?_;have hlen0:=hv.lenW;subst hlen0;refine zN ?_;refine sh ?_;repeat refine zR ?_
 refine wE (len:=l.length) (cap:=l.length) R9 zo ?_;rw [show zr (Value.int .u64 0)=[Value.int .u64 0] from rfl,rU];refine sh ?_;refine sh ?_;refine sh ?_;refine zQ (α:=Nat×List Nat×Nat) (fun x=>[(0,.slice a l.length cap),(1,.int .u64 (d:Int)),(6,.slice (some ⟨3*n+2,0,none⟩) l.length l.length),(7,.int .u64 (x.2.2:Int)),(8,.int .i64 ((x.1:Int)-1))])
  (fun x h' n' w=>n'=n+1∧w=[]∧Ext n h h'∧x.1≤l.length∧(∃e,h' (3*n+2)=some (.row (u64s (List.replicate x.1 0++x.2.1)) e))∧x.1+x.2.1.length=l.length∧WdD x.2.1∧x.2.2<d∧wv (l.drop x.1)=d*wv x.2.1+x.2.2) (fun x=>x.1)
  (l.length,[],0) ⟨rfl,rfl,rfl,rfl,rfl,trivial⟩ ⟨rfl,rfl,Ext.upd zo,Nat.le_refl _,⟨_,by rw [ze,List.append_nil]⟩,by simp,WdD.nil,hd.1,by rw [List.drop_length];rfl⟩ (by show l.length<LL;unfold LL;omega) ?_
 rintro ⟨j,q,r⟩ t h1 _ _ ⟨rfl,rfl,hext,hj,⟨e,hrow⟩,hjl,hq,hr,hV⟩;simp only at hj hrow hjl hq hr hV;refine zN ?_;cases j with
 |zero=>
  rw [List.replicate_zero,List.nil_append] at hrow;have hql:q.length=l.length:=zo;refine sh ?_;refine Za ?_;repeat refine zR ?_
  have htr:=sE (k+2) (h:=h1) (n:=n+1) (a:=some ⟨3*n+2,0,none⟩) (len:=l.length) (cap:=l.length) (l:=q) zo (fun _ e=>by injection e with e;rw [←e]) (.at_ zo hrow rfl (Nat.le_refl _) (by rw [yg];omega) (by rw [List.drop_zero,List.take_of_length_le (by rw [yg];omega)]));refine zu _ R5 htr ?_;rintro v' _ _ _ ⟨rfl,rfl,rfl,rfl,hs⟩;refine sh ?_;rw [List.drop_zero] at hV;have h1':wv l/d=wv q:=by rw [hV,Nat.mul_add_div hd.1,Nat.div_eq_of_lt hr,Nat.add_zero]
  have h2':wv l%d=r:=by rw [hV,Nat.mul_add_mod,Nat.mod_eq_of_lt hr]
  refine retH [.slice _ _ _,.int .u64 _] R3 ⟨_,yC q,by rw [h2'];rfl,⟨rfl,by show n≤n+1;omega,hext,hs,NW.trim hq⟩,?_,?_,by show 3*n≤3*n+2;omega⟩
  ·rw [h1'];exact gQ _ _
  have:=wg q;omega
 |succ j=>
  obtain ⟨x,hx⟩:∃x,l[j]?=some x:=⟨l[j]'zo,List.getElem?_eq_getElem zo⟩;have hx':=hl.get hx;have hv1:=hv.ext hext (Nat.le_succ n);refine sh ?_;refine Zb ?_;repeat refine zR ?_
  refine xi (f:=fun d:Nat=>Value.int .u64 (d:Int)) (j:=j) R7 hv1 ⟨rfl,zo⟩ hx (fun _=>rfl) R4 fun _=>?_;repeat refine zR ?_
  refine z8 _ R5 (fV k h1 (n+1) hr hx' hd.2) ?_;rintro _ rfl;repeat refine zR ?_
  refine pH (j:=j) (v:=.int .u64 (((r*18446744073709551616+x)/d:Nat):Int)) R8 zo (by rw [yg];simp;omega) hrow (by show 3*n≤3*n+2;omega) (fun _=>rfl) R3 (fun _=>rfl) rfl fun _=>?_;rw [uX,zdn];refine sh ?_;refine sh ?_;obtain ⟨g1,g2⟩:=ky (V:=wv (l.drop (j+1))) (Vq:=wv q) (r:=r) (a:=x) hd.1 hV;refine goOn (j,(r*18446744073709551616+x)/d::q,(r*18446744073709551616+x)%d) (by show j<j+1;omega) ⟨rfl,rfl,rfl,rfl,by show Value.int .i64 _=Value.int .i64 _;congr 1;omega,trivial⟩ ⟨rfl,rfl,fun b hb=>(zj zo).trans (hext b hb),by show j≤_;omega,⟨e,ze _ _ _⟩,by show j+(_::q).length=_;simp;omega,?_,Nat.mod_lt _ hd.1,?_⟩
  ·intro y hy;rcases List.mem_cons.1 hy with rfl|hy
   ·exact zg6 hr hx'
   exact hq y hy
  show wv (l.drop j)=d*wv (_::q)+_;rw [bh hx,←g2];have:=Nat.div_add_mod (x+18446744073709551616*wv (l.drop (j+1))) d;rw [g1] at this;exact this.symm
end
section
variable {s:List UInt8}
theorem uk {c:Nat}(h:c<10):(UInt8.ofNat (48+c)).toNat=48+c:=by
 rw [UInt8.toNat_ofNat',Nat.mod_eq_of_lt zo]
theorem pr:∀V,AllD ((decB V).map UInt8.ofNat)∧dval ((decB V).map UInt8.ofNat)=V:=by
 intro V;induction V using Nat.strongRecOn with
 |ind V ih=>
  by_cases h0:V=0
  ·subst h0;unfold decB;rw [xm];exact ⟨fun b hb=>absurd hb (by simp),rfl⟩
  have e:decB V=decB (V/10)++[48+V%10]:=by
   unfold decB;rw [wq h0];simp
  obtain ⟨h1,h2⟩:=ih (V/10) zo;have h3:=uk (c:=V%10) zo;rw [e,List.map_append,List.map_cons,List.map_nil];refine ⟨fun b hb=>?_,?_⟩
  ·rcases List.mem_append.1 hb with hb|hb
   ·exact h1 b hb
   rw [List.mem_singleton.1 hb,h3];omega
  rw [uN,h2,h3];omega
theorem yZ (V:Nat):AllD (decT V)∧dval (decT V)=V∧decT V≠[]:=by
 unfold decT;by_cases h0:V=0
 ·rw [if_pos h0,h0];exact ⟨fun b hb=>by rw [List.mem_singleton.1 hb];decide,rfl,by simp⟩
 rw [if_neg h0];refine ⟨(pr V).1,(pr V).2,fun e=>?_⟩;have:=(pr V).2;rw [e] at this;exact h0 this.symm
def zfu (t:List UInt8)(j:Nat):Prop:=j≤t.length∧(∀i,i<j→t[i]?≠some 47)∧(j=t.length∨t[j]?=some 47)
theorem AllD.slash {a:List UInt8}(h:AllD a):a[i]?≠some 47:=fun e=>by
 have:=h 47 (List.mem_of_getElem? e);have e2:(47:UInt8).toNat=47:=rfl;omega
theorem zfu.uniq {a r:List UInt8}(ha:AllD a)(hr:r=[]∨∃r',r=47::r')(h:zfu (a++r) j):j=a.length:=by
 obtain ⟨h1,h2,h3⟩:=h;rcases Nat.lt_trichotomy j a.length with hlt|rfl|hgt
 ·exfalso;rcases h3 with h3|h3
  ·rw [List.length_append] at h3;omega
  rw [List.getElem?_append_left hlt] at h3;exact ha.slash h3
 ·rfl
 exfalso;rcases hr with rfl|⟨r',rfl⟩
 ·simp at h1;omega
 refine h2 a.length hgt ?_;rw [List.getElem?_append_right (Nat.le_refl _),Nat.sub_self];rfl
def xz (s:List UInt8):Prop:=∃q:Rat,ratT q=s
def zC (s:List UInt8):Bool:=s[0]?==some 45
def yx (s:List UInt8):List UInt8:=if zC s then s.drop 1 else s
theorem vy (q:Rat):zC (ratT q)=decide (q.num<0)∧yx (ratT q)=decT q.num.natAbs++(if q.den=1 then [] else 47::decT q.den):=by
 have hm:zC (ratT q)=decide (q.num<0):=by
  unfold zC ratT;by_cases hn:q.num<0
  ·rw [if_pos hn,decide_eq_true hn];rfl
  rw [if_neg hn,decide_eq_false hn,List.nil_append];obtain ⟨h1,_,h3⟩:=yZ q.num.natAbs;rw [List.getElem?_append_left (List.length_pos_iff.2 h3)];cases hd:(decT q.num.natAbs)[0]? with
  |none=>rfl
  |some b=>
   have:=h1 b (List.mem_of_getElem? hd);show (some b==some 45)=false;have hne:b≠45:=fun e=>by subst e;have e2:(45:UInt8).toNat=45:=rfl;omega
   simpa using hne
 refine ⟨hm,?_⟩;unfold yx;rw [hm];by_cases hn:q.num<0
 ·rw [if_pos (decide_eq_true hn)];unfold ratT;rw [if_pos hn];rfl
 rw [if_neg (by simpa using hn)];unfold ratT;rw [if_neg hn];rfl
theorem dl (hs:ratT q=s)(hj:zfu (yx s) j):zC s=decide (q.num<0)∧(yx s).take j=decT q.num.natAbs∧(q.den=1→j=(yx s).length)∧(q.den≠1→j<(yx s).length∧(yx s).drop (j+1)=decT q.den):=by
 subst hs;obtain ⟨h1,h2⟩:=vy q;rw [h2] at hj ⊢;have hu:=hj.uniq (yZ _).1 (by by_cases hd:q.den=1<;>simp [hd]);subst hu;refine ⟨h1,List.take_left' rfl,fun hd=>by rw [if_pos hd];simp,fun hd=>?_⟩;rw [if_neg hd];refine ⟨by simp,?_⟩;rw [←List.drop_drop,List.drop_left' rfl];rfl
theorem mB (s:List UInt8):(yx s).length≤s.length:=by
 unfold yx;split
 ·rw [List.length_drop];omega
 exact Nat.le_refl _
end
section
variable {x:Operand}{s:List UInt8}
section
variable {X:CtxF}{ops r:List Oper}{t:TF}{h:HF}{n:Nat}{w:List Nat}{Q:SV→Prop}{o:Oper}{d:Tmp}
theorem wR {i:Operand}(hw:zh ops t o=true∧o.dst=some d∧zm X.nt (some d)=true∧o.op=.slice ty x (some i) none none∧X.E.und ty=some .string∧evF t x=.string ⟨⟨s⟩⟩∧evF t i=.int ik ji∧ji=(j:Int))(hl:j≤s.length)
  (k:EO X ops r ⟨upd t d (.string ⟨⟨s.drop j⟩⟩),h,n,w⟩ Q):EO X ops (o::r) ⟨t,h,n,w⟩ Q:=by
 obtain ⟨hw,hd,hn,ho,hu,hx,hj,hji⟩:=hw;subst hji;refine zA ⟨hw,hd,hn,(by rw [ho];rfl),?_⟩ k;rw [ho];show yS X.E ty (evF t x) (some (evF t i)) none=_;rw [hx,hj];have h1:(0:Int)≤(j:Int)∧(j:Int)≤(s.length:Int):=zo;simp only [yS,hu,bnd,if_pos h1,Int.toNat_natCast];rw [List.take_of_length_le (by rw [List.length_drop];exact Nat.le_refl _)]
theorem u4 {i:Operand}(hw:zh ops t o=true∧o.dst=some d∧zm X.nt (some d)=true∧o.op=.slice ty x none (some i) none∧X.E.und ty=some .string∧evF t x=.string ⟨⟨s⟩⟩∧evF t i=.int ik ji∧ji=(j:Int))(hl:j≤s.length)
  (k:EO X ops r ⟨upd t d (.string ⟨⟨s.take j⟩⟩),h,n,w⟩ Q):EO X ops (o::r) ⟨t,h,n,w⟩ Q:=by
 obtain ⟨hw,hd,hn,ho,hu,hx,hj,hji⟩:=hw;subst hji;refine zA ⟨hw,hd,hn,(by rw [ho];rfl),?_⟩ k;rw [ho];show yS X.E ty (evF t x) none (some (evF t i))=_;rw [hx,hj];have h1:(0:Int)≤(j:Int)∧(j:Int)≤(s.length:Int):=zo;simp only [yS,hu,bnd,if_pos h1,Int.toNat_natCast,List.drop_zero,Nat.sub_zero]
end
theorem RatR.off {h:HF}{n:Nat}{y:Option BF}(r:RatR h n n1 n2 d1 d2 q ln ld)(h1:Off b n2)(h2:Off b d2):RatR (upd h b y) n n1 n2 d1 d2 q ln ld:=⟨r.num.off h1,r.neg,r.sl.off h2,r.norm,r.val⟩
theorem RatR.ones {h:HF}{n:Nat}(r:RatR h n n1 n2 d1 d2 q ln ld):ones [n1,n2,d1,d2]=true:=by
 rw [r.num.neg];show GL.ones (n2::_)=true;rw [r.num.sl.ones,r.neg];show GL.ones (d2::_)=true;rw [r.sl.ones];rfl
theorem RatR.zero (h:HF)(n:Nat):RatR h n (.bool false) (.slice none 0 0) (.bool false) (.slice none 0 0) 0 [] []:=⟨⟨rfl,.nil (.inl rfl),Norm.nil,rfl⟩,rfl,.nil (.inl rfl),Norm.nil,rfl⟩
theorem aQ (h:q.den=1):q=((q.num:Int):Rat):=by
 apply Rat.ext
 ·rw [Rat.num_intCast]
 rw [Rat.den_intCast,h]
theorem RatR.whole {h:HF}{n:Nat}{x:Int}{l:List Nat}(r:IntR h n c1 c2 x l):RatR h n c1 c2 (.bool false) (.slice none 0 0) (x:Rat) l []:=⟨by rw [Rat.num_intCast];exact r,rfl,.nil (.inl rfl),Norm.nil,by rw [Rat.den_intCast];rfl⟩
def RdR (n:Nat)(h:HF)(s:List UInt8)(v:Value)(h':HF)(n':Nat)(w:List Nat):Prop:=w=[]∧n≤n'∧Ext n h h'∧∃n1 n2 d1 d2 q ln ld ok,v=.tuple #[.agg #[n1,n2,d1,d2],.bool ok]∧RatR h' n' n1 n2 d1 d2 q ln ld∧ln.length≤s.length∧ld.length≤s.length∧ya n n2∧ya n d2∧(ok=true→ratT q=s)∧(xz s→ok=true)
theorem iz (k:Nat)(h:HF)(n:Nat)(s:List UInt8)(hs:s.length<11):CF (cal (k+6)) 52 [.string ⟨⟨s⟩⟩] h n (RdR n h s):=by
 refine zk (fn:=Tryz.f52) R4 ?_;refine zN ?_;refine zT R5 ?_;refine sh ?_;repeat refine zR ?_
 simp only [yL,xN,zO,xD];generalize hh:upd h (3*n+2) _=h1;have hr1:∃e,h1 (3*n+2)=some (.row [.bool false,.slice none 0 0,.bool false,.slice none 0 0] e):=⟨_,by rw [←hh,ze];rfl⟩;have hx1:Ext n h h1:=by rw [←hh];exact Ext.upd zo
 clear hh;obtain ⟨e1,hr1⟩:=hr1;have hbl:=mB s;refine nl [(0,.string ⟨⟨s⟩⟩),(2,.pointer (some ⟨3*n+2,0,none⟩)),(4,.string ⟨⟨s⟩⟩),(5,.bool (zC s))] (fun h' n' w=>h1=h'∧n'=n+1∧w=[]) ?_ ?_
 ·refine Zf ?_;refine st_I (ik:=.i64) (a:=(s.length:Int)) R5 ?_;by_cases hs0:s.length=0
  ·refine sh ?_;exact wL ⟨rfl,rfl,rfl,by rw [List.length_eq_zero_iff.1 hs0];rfl,trivial⟩ ⟨rfl,rfl,rfl⟩
  obtain ⟨b,hb⟩:∃b,s[0]?=some b:=⟨s[0]'zo,List.getElem?_eq_getElem zo⟩;refine nR R6 zo ?_;repeat refine zR ?_
  refine yf (j:=0) R8 hb ?_;have hm:zC s=decide (b.toNat=45):=by
   unfold zC;rw [hb];by_cases h45:b=45
   ·subst h45;rfl
   rw [show decide (b.toNat=45)=false from decide_eq_false (fun e=>h45 (UInt8.toNat_inj.1 e))];simpa using h45
  by_cases h45:b.toNat=45
  ·refine sh ?_;exact wL ⟨rfl,rfl,rfl,by rw [hm,decide_eq_true h45];rfl,trivial⟩ ⟨rfl,rfl,rfl⟩
  refine sh ?_;exact wL ⟨rfl,rfl,rfl,by rw [hm,decide_eq_false h45];rfl,trivial⟩ ⟨rfl,rfl,rfl⟩
 rintro t _ _ _ ⟨rfl,rfl,rfl⟩;refine zN ?_;refine sh ?_;refine nl [(0,.string ⟨⟨s⟩⟩),(2,.pointer (some ⟨3*n+2,0,none⟩)),(4,.string ⟨⟨yx s⟩⟩),(5,.bool (zC s))] (fun h' n' w=>h1=h'∧n'=n+1∧w=[]) ?_ ?_
 ·by_cases hm:zC s=true
  ·rw [zc (by show Value.bool (zC s)=_;rw [hm])];refine Zf ?_;have hs1:1≤s.length:=by
    unfold zC at hm;cases s with
    |nil=>simp at hm
    |cons=>simp
   refine wR (j:=1) R8 hs1 ?_;refine sh ?_;exact wL ⟨rfl,rfl,by unfold yx;rw [if_pos hm];rfl,rfl,trivial⟩ ⟨rfl,rfl,rfl⟩
  rw [za (by show Value.bool (zC s)=_;rw [Bool.eq_false_iff.2 hm])];refine zN ?_;exact wL ⟨rfl,rfl,by unfold yx;rw [if_neg hm];rfl,rfl,trivial⟩ ⟨rfl,rfl,rfl⟩
 rintro t _ _ _ ⟨rfl,rfl,rfl⟩;generalize hT:yx s=T at hbl;refine Zf ?_;refine st_I (ik:=.i64) (a:=(T.length:Int)) R5 ?_;refine sh ?_;repeat refine zR ?_
 simp only [yL,xN,zO,xD];refine yo (α:=Nat) (fun z=>[(0,.string ⟨⟨s⟩⟩),(2,.pointer (some ⟨3*n+2,0,none⟩)),(4,.string ⟨⟨T⟩⟩),(5,.bool (zC s)),(6,.int .i64 (z:Int))]) (fun z h' n' w=>h1=h'∧n'=n+1∧w=[]∧zfu T z) ?_ ?_
 ·refine zN ?_;refine zQ (α:=Nat) (fun z=>[(0,.string ⟨⟨s⟩⟩),(2,.pointer (some ⟨3*n+2,0,none⟩)),(4,.string ⟨⟨T⟩⟩),(5,.bool (zC s)),(6,.int .i64 (T.length:Int)),(7,.int .i64 (z:Int))]) (fun z h' n' w=>h1=h'∧n'=n+1∧w=[]∧z≤T.length∧∀i,i<z→T[i]?≠some 47) (fun z=>T.length-z) 0 ⟨rfl,rfl,rfl,rfl,rfl,rfl,trivial⟩ ⟨rfl,rfl,rfl,Nat.zero_le _,fun i hi=>absurd hi (Nat.not_lt_zero i)⟩ (by show T.length-0<LL;unfold LL;omega) ?_;rintro z t _ _ _ ⟨rfl,rfl,rfl,hz,hno⟩;refine zN ?_;refine Zc ?_;refine st_I (ik:=.i64) (a:=(T.length:Int)) R5 ?_;by_cases hze:z=T.length
  ·refine sh ?_;refine Za ?_;exact zK T.length ⟨rfl,rfl,rfl,rfl,rfl,trivial⟩ ⟨rfl,rfl,rfl,Nat.le_refl _,by rw [←hze];exact hno,.inl rfl⟩
  obtain ⟨b,hb⟩:∃b,T[z]?=some b:=⟨T[z]'zo,List.getElem?_eq_getElem zo⟩;refine sh ?_;refine Zb ?_;refine Zc ?_;refine yf (j:=z) R8 hb ?_;by_cases h47:b.toNat=47
  ·have hb47:b=47:=UInt8.toNat_inj.1 h47;subst hb47;refine sh ?_;refine Zb ?_;refine sh ?_;exact zK z ⟨rfl,rfl,rfl,rfl,rfl,trivial⟩ ⟨rfl,rfl,rfl,hz,hno,.inr hb⟩
  refine sh ?_;refine Za ?_;refine sh ?_;refine goOn (z+1) (by show T.length-(z+1)<T.length-z;omega) ⟨rfl,rfl,rfl,rfl,rfl,by show Value.int .i64 _=Value.int .i64 _;congr 1,trivial⟩ ⟨rfl,rfl,rfl,by show z+1≤T.length;omega,fun i hi=>?_⟩;by_cases hiz:i<z
  ·exact hno i hiz
  have:i=z:=zo;subst this;rw [hb];intro e;injection e with e
  subst e;exact h47 rfl
 rintro z t _ _ _ ⟨rfl,rfl,rfl,hsl⟩;refine zN ?_;have hzl:z≤T.length:=hsl.1;have hparts:∀q0,ratT q0=s→zC s=decide (q0.num<0)∧T.take z=decT q0.num.natAbs∧(q0.den=1→z=T.length)∧(q0.den≠1→z<T.length∧T.drop (z+1)=decT q0.den):=by
  intro q0 hq0;have:=dl hq0 (j:=z) (by rw [hT];exact hsl);rw [hT] at this;exact this
 refine Zc ?_;refine u4 (j:=z) R8 hzl ?_;have htl:(T.take z).length≤s.length:=by rw [List.length_take];omega
 refine zu _ R5 (rA (k+2) _ _ (T.take z) zo) ?_;rintro _ h2 n2 _ ⟨rfl,hn2,hx2,c1,c2,L,ok,x,rfl,ix,hLl,fx,hok1,hok2⟩;repeat refine zR ?_
 refine zT R5 ?_;refine zv [c1,c2] R7 ix.ones (ze _ _ _) rfl (by show 3*n≤_;omega) ?_;rw [yH];generalize hh:upd h2 (3*n2+2) _=h3;have hx3:Ext n2 h2 h3:=by rw [←hh];exact Ext.upd zo
 have hp8:∃e,h3 (3*n2+2)=some (.row [c1,c2] e):=⟨_,by rw [←hh,ze]⟩;clear hh;obtain ⟨e8,hp8⟩:=hp8;have ix3:=ix.ext hx3 zs;have hr3:h3 (3*n+2)=_:=(hx3 _ zo).trans ((hx2 _ zo).trans hr1);have hx13:Ext n h h3:=fun b hb=>(hx3 b zo).trans ((hx2 b zo).trans (hx1 b hb));refine sh ?_;cases ok with
 |false=>
  refine sh ?_;refine Zb ?_;refine zA (v:=.agg #[.bool false,.slice none 0 0,.bool false,.slice none 0 0]) R5 ?_;refine zv [.bool false,.slice none 0 0,.bool false,.slice none 0 0] R7 rfl hr3 rfl (by show 3*n≤_;omega) ?_;refine sh ?_;refine ug R6 (ze _ _ _) R2 ⟨rfl,by show n≤n2+1;omega,fun b hb=>(zj zo).trans (hx13 b hb),_,_,_,_,0,[],[],false,rfl,RatR.zero _ _,Nat.zero_le _,Nat.zero_le _,trivial,trivial,fun h=>absurd h (by simp),?_⟩;rintro ⟨q0,hq0⟩;obtain ⟨_,p2,_,_⟩:=hparts q0 hq0;have hd:=yZ q0.num.natAbs;rw [←p2] at hd;exact absurd (hok1 ⟨hd.1,hd.2.2⟩).1 (by simp)
 |true=>
 refine sh ?_;refine Za ?_;have hall:=hok2 rfl;have hxv:=(hok1 hall).2;obtain ⟨a,len,cap,rfl,_⟩:=ix3.sl.len;have e1:=ix3.sl.lenU;subst e1;repeat refine zR ?_
 refine zg R6 hp8 (v:=.slice a L.length cap) R2 ?_;refine zu _ R5 (wW (k+4) _ _ (zC s) a L.length cap) ?_;rintro _ h4 n4 _ ⟨rfl,rfl,rfl,hx4⟩;refine zA (v:=.agg #[.bool (zC s&&decide (0<L.length)),.slice a L.length cap,.bool false,.slice none 0 0]) R5 ?_;refine zT R5 ?_;refine zv [.bool (zC s&&decide (0<L.length)),.slice a L.length cap,.bool false,.slice none 0 0] R7 rfl (ze _ _ _) rfl (by show 3*n≤_;omega) ?_;rw [yH];generalize hh:upd h4 (3*(n2+1+1)+2) _=h5;have hx5:Ext (n2+1+1) h4 h5:=by rw [←hh];exact Ext.upd zo
 have hp10:∃e,h5 (3*(n2+1+1)+2)=some (.row [.bool (zC s&&decide (0<L.length)),.slice a L.length cap,.bool false,.slice none 0 0] e):=⟨_,by rw [←hh,ze]⟩;clear hh;have hr5:h5 (3*n+2)=_:=(hx5 _ zo).trans ((hx4 _ zo).trans hr3);have hx15:Ext n h h5:=fun b hb=>(hx5 b zo).trans ((hx4 b zo).trans (hx13 b hb));obtain ⟨x',hx'⟩:∃x':Int,x'=if zC s then -(x:Int) else x:=⟨_,rfl⟩
 have iN:IntR h5 (n2+1+1+1) (.bool (zC s&&decide (0<L.length))) (.slice a L.length cap) x' L:=by
  refine qg ((ix3.sl.ext hx4 zs).ext hx5 zs) ix3.norm ?_ fun h0=>?_
  ·rw [ix3.val,hx'];split<;>omega
  rw [hx'] at h0 ⊢;by_cases hm:zC s=true
  ·rw [if_pos hm] at h0 ⊢;rw [hm,decide_eq_true zo]
  rw [if_neg hm,Bool.eq_false_iff.2 hm,decide_eq_false zo]
 have hnum:∀q0,ratT q0=s→x'=q0.num:=by
  intro q0 hq0;obtain ⟨p1,p2,_,_⟩:=hparts q0 hq0;rw [hx',hxv,p2,(yZ _).2.1,p1];by_cases hn:q0.num<0
  ·rw [if_pos (decide_eq_true hn)];omega
  rw [if_neg (by simpa using hn)];omega
 clear hx';refine zN ?_;refine Zc ?_;refine st_I (ik:=.i64) (a:=(T.length:Int)) R5 ?_;refine pb R6 ?_;refine zN ?_;refine yo (α:=(Value×Value×Value×Value)×Rat×List Nat×List Nat) (fun _=>[(0,.string ⟨⟨s⟩⟩),(2,.pointer (some ⟨3*n+2,0,none⟩)),(10,.pointer (some ⟨3*(n2+1+1)+2,0,none⟩))])
  (fun z h' n' w=>w=[]∧n2+1+1+1≤n'∧Ext n h h'∧h' (3*n+2)=some (.row [.bool false,.slice none 0 0,.bool false,.slice none 0 0] e1)∧(∃e,h' (3*(n2+1+1)+2)=some (.row [z.1.1,z.1.2.1,z.1.2.2.1,z.1.2.2.2] e))∧RatR h' n' z.1.1 z.1.2.1 z.1.2.2.1 z.1.2.2.2 z.2.1 z.2.2.1 z.2.2.2∧z.2.2.1.length≤s.length∧z.2.2.2.length≤s.length∧ya (n+1) z.1.2.1∧ya (n+1) z.1.2.2.2∧∀q0,ratT q0=s→z.2.1=q0) ?_ ?_
 ·by_cases hzT:(z:Int)<(T.length:Int)
  ·rw [zc (by show Value.bool (decide ((z:Int)<(T.length:Int)))=_;rw [decide_eq_true hzT])];refine Ze ?_;refine wR (j:=z+1) R8 zo ?_;have hdl:(T.drop (z+1)).length≤s.length:=by rw [List.length_drop];omega
   refine zu _ R5 (rA (k+2) _ _ (T.drop (z+1)) zo) ?_;rintro _ h6 n6 _ ⟨rfl,hn6,hx6,d1,d2,D,okd,y,rfl,iy,hDl,fy,hokd1,hokd2⟩;repeat refine zR ?_
   refine zT R5 ?_;refine zv [d1,d2] R7 iy.ones (ze _ _ _) rfl (by show 3*n≤_;omega) ?_;rw [yH];generalize hh:upd h6 (3*n6+2) _=h7;have hx7:Ext n6 h6 h7:=by rw [←hh];exact Ext.upd zo
   have hp11:∃e,h7 (3*n6+2)=some (.row [d1,d2] e):=⟨_,by rw [←hh,ze]⟩;clear hh;obtain ⟨e11,hp11⟩:=hp11;have hr7:h7 (3*n+2)=_:=(hx7 _ zo).trans ((hx6 _ zo).trans hr5);have hx17:Ext n h h7:=fun b hb=>(hx7 b zo).trans ((hx6 b zo).trans (hx15 b hb));have iy7:=iy.ext hx7 zs;have hden:∀q0,ratT q0=s→okd=true∧y=q0.den:=by
    intro q0 hq0;obtain ⟨p1,p2,p3,p4⟩:=hparts q0 hq0;have hd1:q0.den≠1:=fun e=>by have:=p3 e;omega
    have hd:=yZ q0.den;rw [←(p4 hd1).2] at hd;have:=hokd1 ⟨hd.1,hd.2.2⟩;rw [hd.2.1] at this;exact this
   refine sh ?_;by_cases hfine:okd=true∧y≠0
   ·obtain ⟨rfl,hy0⟩:=hfine;repeat refine zR ?_
    refine zI (v:=.agg #[d1,d2]) R5 (zB R2 hp11 rfl zb rfl) ?_;refine z8 _ R5 (io (k+4) iy7) ?_;rintro _ rfl;rw [Int.sign_eq_one_of_pos zo];refine sh ?_;refine Za ?_;obtain ⟨e10,hp10⟩:=hp10;have hp10':h7 (3*(n2+1+1)+2)=_:=(hx7 _ zo).trans ((hx6 _ zo).trans hp10);repeat refine zR ?_
    refine zI (v:=.agg #[.bool (zC s&&decide (0<L.length)),.slice a L.length cap]) R5 (zB R2 hp10' rfl zb rfl) ?_;refine zI (v:=.agg #[d1,d2]) R5 (zB R2 hp11 rfl zb rfl) ?_;have iN7:=(iN.ext hx6 hn6).ext hx7 zs;have hD1:D.length≤1:=by
     have hq:=hokd2 rfl;have hlt:=wK hq.1;have hpow:10^(T.drop (z+1)).length≤10^9:=Nat.pow_le_pow_right zd (by rw [List.length_drop];omega);have hN:Norm [4294967295]:=⟨fun x hx=>by simp at hx;omega,rfl⟩;exact hN.len_le iy.norm (by rw [iy.val,Int.natAbs_natCast,(hokd1 hq).2];show _≤4294967295;omega)
    refine zu _ R5 (zbc k iN7 iy7 zo zo) ?_;rintro _ h8 n8 _ ⟨rfl,hn8,hx8,u1,u2,v1,v2,ln,ld,rfl,rq,hl1,hl2,o1,o2⟩;have hp10'':h8 (3*(n2+1+1)+2)=_:=(hx8 _ zo).trans hp10';refine zv [u1,u2,v1,v2] R7 rq.ones hp10'' rfl (by show 3*n≤_;omega) ?_;refine zN ?_;have f1:ya (n+1) u2:=by
     rcases o1 with rfl|o1
     ·exact fx
     exact o1.mono zo
    have f2:ya (n+1) v2:=by
     rcases o2 with rfl|o2
     ·exact fy.mono zo
     exact o2.mono zo
    have g1:Off (3*(n2+1+1)+2) u2:=by
     rcases o1 with rfl|o1
     ·exact ix.sl.below.off zo
     exact o1.off zo
    have g2:Off (3*(n2+1+1)+2) v2:=by
     rcases o2 with rfl|o2
     ·exact fy.off zo
     exact o2.off zo
    refine zK ((u1,u2,v1,v2),Rat.divInt x' (y:Int),ln,ld) ⟨rfl,rfl,rfl,trivial⟩ ⟨rfl,by show n2+1+1+1≤n8;omega,fun b hb=>(zj zo).trans ((hx8 b zo).trans (hx17 b hb)),(zj zo).trans ((hx8 _ zo).trans hr7),⟨_,ze _ _ _⟩,rq.off g1 g2,by show ln.length≤s.length;omega,by show ld.length≤s.length;omega,f1,f2,fun q0 hq0=>?_⟩;show Rat.divInt x' (y:Int)=q0;rw [hnum q0 hq0,(hden q0 hq0).2];exact Rat.num_divInt_den q0
   have hbad:¬xz s:=fun ⟨q0,hq0⟩=>hfine ⟨(hden q0 hq0).1,by rw [(hden q0 hq0).2];exact q0.den_nz⟩;cases okd with
   |false=>
    refine sh ?_;refine Zb ?_;refine zA (v:=.agg #[.bool false,.slice none 0 0,.bool false,.slice none 0 0]) R5 ?_;refine zv [.bool false,.slice none 0 0,.bool false,.slice none 0 0] R7 rfl hr7 rfl (by show 3*n≤_;omega) ?_;refine sh ?_;exact ug R6 (ze _ _ _) R2 ⟨rfl,by show n≤n6+1;omega,fun b hb=>(zj zo).trans (hx17 b hb),_,_,_,_,0,[],[],false,rfl,RatR.zero _ _,Nat.zero_le _,Nat.zero_le _,trivial,trivial,fun h=>absurd h (by simp),fun hs=>absurd hs hbad⟩
   |true=>
    have hy0:y=0:=Classical.byContradiction fun e=>hfine ⟨rfl,e⟩;subst hy0;repeat refine zR ?_
    refine zI (v:=.agg #[d1,d2]) R5 (zB R2 hp11 rfl zb rfl) ?_;refine z8 _ R5 (io (k+4) iy7) ?_;rintro _ rfl;refine sh ?_;refine Zb ?_;refine zA (v:=.agg #[.bool false,.slice none 0 0,.bool false,.slice none 0 0]) R5 ?_;refine zv [.bool false,.slice none 0 0,.bool false,.slice none 0 0] R7 rfl hr7 rfl (by show 3*n≤_;omega) ?_;refine sh ?_;exact ug R6 (ze _ _ _) R2 ⟨rfl,by show n≤n6+1;omega,fun b hb=>(zj zo).trans (hx17 b hb),_,_,_,_,0,[],[],false,rfl,RatR.zero _ _,Nat.zero_le _,Nat.zero_le _,trivial,trivial,fun h=>absurd h (by simp),fun hs=>absurd hs hbad⟩
  rw [za (by show Value.bool (decide ((z:Int)<(T.length:Int)))=_;rw [decide_eq_false hzT])];refine zN ?_;refine zK ((.bool (zC s&&decide (0<L.length)),.slice a L.length cap,.bool false,.slice none 0 0),(x':Rat),L,[]) ⟨rfl,rfl,rfl,trivial⟩ ⟨rfl,Nat.le_refl _,hx15,hr5,hp10,RatR.whole iN,by show L.length≤s.length;omega,Nat.zero_le _,fx,trivial,fun q0 hq0=>?_⟩;obtain ⟨p1,p2,p3,p4⟩:=hparts q0 hq0;have hd:q0.den=1:=Classical.byContradiction fun e=>by have:=(p4 e).1;omega
  show (x':Rat)=q0;rw [hnum q0 hq0];exact (aQ hd).symm
 clear hx15 hr5 hp10 iN hx5 hx4 hr3 hx13 hp8;rintro ⟨⟨u1,u2,v1,v2⟩,q,ln,ld⟩ t h9 n9 _ ⟨rfl,hn9,hx9,hr9,⟨e10,hp9⟩,rq,hl1,hl2,f1,f2,hq0⟩;simp only at hp9 rq hl1 hl2 f1 f2 hq0;refine zN ?_;refine zl [0,0,2,0,14,7,63] rfl ?_;refine zL (v:=.agg #[u1,u2,v1,v2]) R6 (zB R2 hp9 rfl zb rfl) R2 ?_;refine zL (v:=.agg #[u1,u2,v1,v2]) R6 (zB R2 hp9 rfl zb rfl) R2 ?_;refine ju _ R7 (pB (k+1) rq zo) ?_;rintro _ rfl;refine zE ?_;refine dr_B (a:=ratT q==s) R5 ?_;refine yT (cs:=[u1,u2,v1,v2]) R7 rq.ones hr9 zb (by show 3*n≤_;omega) R3 ?_;repeat refine zE ?_
 refine zN ?_;exact ug R6 (ze _ _ _) R2 ⟨rfl,by show n≤n9;omega,fun b hb=>(zj zo).trans (hx9 b hb),_,_,_,_,q,ln,ld,_,rfl,rq.off (f1.off zo) (f2.off zo),hl1,hl2,f1.mono zo,f2.mono zo,fun he=>eq_of_beq he,fun ⟨q0,hq⟩=>by rw [hq0 q0 hq,hq];exact beq_self_eq_true s⟩
end
section
variable {e:TypeId}{x:Operand}{s:List UInt8}
section
variable {X:CtxF}{ops r:List Oper}{t:TF}{h:HF}{n:Nat}{w:List Nat}{Q:SV→Prop}{o:Oper}{d:Tmp}
theorem zdm {el:TypeId}(hw:zh ops t o=true)(hd:o.dst=some d)(hn:zm X.nt (some d)=true)(ho:o.op=.convert ty e x)(hx:evF t x=.string ⟨⟨s⟩⟩)(hm:vo X.E ty e (.string ⟨⟨s⟩⟩)=some ⟨s.map fun b=>Value.int .u8 b.toNat,el,true,some (s.length,s.length)⟩)
  (k:EO X ops r ⟨upd t d (.slice (some ⟨3*n+1,0,none⟩) s.length s.length),upd h (3*n+1) (some (.row (s.map fun b=>Value.int .u8 b.toNat) el)),n+1,w⟩ Q):EO X ops (o::r) ⟨t,h,n,w⟩ Q:=by
 obtain ⟨s',h1,h2⟩:=k;refine ⟨s',?_,h2⟩;rw [seqF,hw];have hc:cls o.op=4:=by rw [ho];rfl
 have h3:mkE X.E o.op (evF t)=some ⟨s.map fun b=>Value.int .u8 b.toNat,el,true,some (s.length,s.length)⟩:=by rw [ho];show vo X.E ty e (evF t x)=_;rw [hx];exact hm
 simp only [opF,hc,h3,mkF,xC,hd,hn,addW];exact h1
end
theorem Gro.inv2 {h:HF}{n:Nat}(g:Gro h lo n e sz v len c)(h0:len≠0):∃b,v=.slice (some ⟨b,0,none⟩) len len∧gro b=true∧3*lo≤b∧b<3*n∧h b=some (.row c e)∧c.length=len*sz:=by
 cases g with
 |nil=>exact absurd rfl h0
 |at_ hg hlo hb hr hl ho=>exact ⟨_,rfl,hg,hlo,hb,hr,hl⟩
theorem mT {E D:List Nat}{x:Nat}(d:Nat)(h:D[E.length]?=some x):(E++D.drop E.length).set E.length d=(E++[d])++D.drop (E++[d]).length:=by
 rw [xR h,List.set_append_right _ _ (Nat.le_refl _),Nat.sub_self];simp
theorem fj (h:i≤19):10^i≤10000000000000000000:=Nat.pow_le_pow_right zd h
theorem NW.len_pow {L:List Nat}(h:NW L)(hv:wv L<10^i):L.length≤i:=
 h.len_le (Nat.lt_of_lt_of_le hv (Nat.pow_le_pow_left zd i))
theorem ny (k:Nat)(h:HF)(n:Nat)(hs:AllD s)(hl:s.length<20):CF (cal (k+3)) 209 [.string ⟨⟨s⟩⟩] h n fun v h' n' w=>∃L,ResW n h v h' n' w L∧wv L=dval s∧ya n v:=by
 refine zk (fn:=Tryz.f209) R4 ?_;refine zN ?_;refine sh ?_;refine sh ?_;refine zQ (α:=List UInt8×List UInt8×Value×List Nat) (fun z=>[(0,.string ⟨⟨z.2.1⟩⟩),(3,z.2.2.1)])
  (fun z h' n' w=>w=[]∧n≤n'∧Ext n h h'∧s=z.1++z.2.1∧Gro h' n n' 164 1 z.2.2.1 z.2.2.2.length (u64s z.2.2.2)∧NW z.2.2.2∧wv z.2.2.2=dval z.1∧(z.2.1=[]∨z.1=[])) (fun z=>z.2.1.length)
  ([],s,.slice none 0 0,[]) ⟨rfl,rfl,trivial⟩ ⟨rfl,Nat.le_refl _,Ext.refl _ _,rfl,.nil,NW.nil,rfl,.inr rfl⟩ (by show s.length<LL;unfold LL;omega) ?_
 rintro ⟨done,rest,v3,D⟩ t h1 n1 _ ⟨rfl,hn1,hx1,hsr,hgD,hND,hDv,hor⟩;simp only at hsr hgD hND hDv;have hsl:done.length+rest.length<20:=by rw [hsr,List.length_append] at hl;exact hl
 have hda:AllD done:=fun b hb=>hs b (by rw [hsr];simp [hb]);have hra:AllD rest:=fun b hb=>hs b (by rw [hsr];simp [hb]);have hDl:D.length≤done.length:=hND.len_pow (by rw [hDv];exact wK hda);obtain ⟨a3,rfl,_⟩:=hgD.shape;refine zN ?_;by_cases hr0:rest=[]
 ·subst hr0;refine sh ?_;refine Za ?_;refine sh ?_;rw [List.append_nil] at hsr;exact retH _ ⟨rfl,(zi rfl),rfl⟩ ⟨D,⟨rfl,hn1,hx1,hgD.sl,hND⟩,by rw [hDv,hsr],hgD.fresh⟩
 have hrl:0<rest.length:=List.length_pos_iff.2 hr0;have hdn:done=[]:=hor.resolve_left hr0;have hD0:D.length=0:=by rw [hdn] at hDl;exact Nat.le_zero.1 hDl
 obtain ⟨sz,hsz⟩:∃sz,sz=(rest.length-1)%19+1:=⟨_,rfl⟩;have hsz1:1≤sz∧sz≤19∧sz≤rest.length:=zo;have hCl:(rest.take sz).length=sz:=by rw [List.length_take];omega
 have hCa:AllD (rest.take sz):=fun b hb=>hra b (List.mem_of_mem_take hb);refine zM ?_;refine st_I (ik:=.i64) (a:=(rest.length:Int)) R5 ?_;refine sh ?_;refine Zb ?_;refine zM ?_;refine st_I (ik:=.i64) (a:=(rest.length:Int)) R5 ?_;refine nQ (a:=(rest.length:Int)) (b:=1) R6 zo ?_;refine gZ (a:=(rest.length:Int)-1) (b:=19) R6 zd ?_;rw [show ((rest.length:Int)-1).tmod 19=(((rest.length-1)%19:Nat):Int) from by rw [show (rest.length:Int)-1=((rest.length-1:Nat):Int) from zo];rfl];refine vv (a:=(((rest.length-1)%19:Nat):Int)) (b:=1) R6 zo ?_;rw [show (((rest.length-1)%19:Nat):Int)+1=(sz:Int) from zo];refine sh ?_;refine sh ?_;refine Zc ?_;refine u4 (s:=rest) (j:=sz) R8 zo ?_;refine zdm (s:=rest.take sz) rfl rfl rfl rfl rfl rfl ?_;generalize hC:rest.take sz=C at hCl hCa ⊢;generalize hh2:upd h1 (3*n1+1) _=h2;have hrow2:∃el,h2 (3*n1+1)=some (.row (C.map fun b=>Value.int .u8 b.toNat) el):=⟨_,by rw [←hh2,ze]⟩;obtain ⟨el,hrow2⟩:=hrow2;have hx2:Ext n1 h1 h2:=by rw [←hh2];exact Ext.upd zo
 clear hh2;have hgD2:=hgD.ext hx2 (Nat.le_succ n1);have hSC:Sl h2 (n1+1) 1 (.slice (some ⟨3*n1+1,0,none⟩) C.length C.length) (C.map fun b=>Value.int .u8 (b.toNat:Int)):=.at_ zo hrow2 rfl (Nat.le_refl _) (by simp) (by rw [List.drop_zero,List.take_of_length_le (by simp)]);refine st_I (ik:=.i64) (a:=(C.length:Int)) R5 ?_;refine sh ?_;refine zQ (α:=Nat) (fun i=>[(0,.string ⟨⟨rest⟩⟩),(3,.slice a3 D.length D.length),(4,.int .i64 (sz:Int)),(5,.int .u64 ((dval (C.take i):Nat):Int)),(6,.int .u64 ((10^i:Nat):Int)),(23,.slice (some ⟨3*n1+1,0,none⟩) C.length C.length),(24,.int .i64 (C.length:Int)),(25,.int .i64 (i:Int))]) (fun i h' n' w=>h2=h'∧n'=n1+1∧w=[]∧i≤C.length) (fun i=>C.length-i) 0 ⟨rfl,rfl,rfl,rfl,rfl,rfl,rfl,rfl,trivial⟩ ⟨rfl,rfl,rfl,Nat.zero_le _⟩ (by show C.length-0<LL;unfold LL;omega) ?_;rintro i t _ _ _ ⟨rfl,rfl,rfl,hi⟩;refine zN ?_;by_cases hiC:i=C.length;case neg=>
  obtain ⟨b,hb⟩:∃b,C[i]?=some b:=⟨C[i]'zo,List.getElem?_eq_getElem zo⟩;have hbd:=hCa b (List.mem_of_getElem? hb);have hlt:dval (C.take i)<10^i:=by
   have:=wK (s:=C.take i) fun b hb=>hCa b (List.mem_of_mem_take hb);rw [List.length_take,Nat.min_eq_left zo] at this;exact this
  have hp:=fj (i:=i+1) zo;rw [Nat.pow_succ] at hp;refine sh ?_;refine Zb ?_;refine xi (f:=fun b:UInt8=>Value.int .u8 (b.toNat:Int)) (j:=i) R7 hSC R2 hb (fun _=>rfl) R4 fun _=>?_;refine sh ?_;refine zM ?_;refine xK (a:=10) (b:=dval (C.take i)) R6 zo ?_;refine zM ?_;refine pG (a:=b.toNat) (b:=48) R6 zo ?_;refine tR (c:=b.toNat-48) R7 zo ?_;refine ws (a:=10*dval (C.take i)) (b:=b.toNat-48) R6 zo ?_;refine sh ?_;refine zM ?_;refine xK (a:=10^i) (b:=10) R6 zo ?_;refine sh ?_;refine sh ?_;refine goOn (i+1) (by show C.length-(i+1)<C.length-i;omega) ⟨rfl,rfl,rfl,?_,?_,rfl,rfl,rfl,trivial⟩ ⟨rfl,rfl,rfl,by show i+1≤_;omega⟩
  ·show Value.int .u64 _=Value.int .u64 _;rw [rK hb,uN]
  show Value.int .u64 _=Value.int .u64 _;rw [Nat.pow_succ]
 subst hiC;refine sh ?_;refine Za ?_;rw [List.take_length];refine Zc ?_;refine wR (s:=rest) (j:=sz) R8 zo ?_;refine sh ?_;refine sh ?_;refine sh ?_;have hCv:dval C<10^C.length:=wK hCa;have hp:=fj (i:=C.length) zo;refine zQ (α:=List Nat×Nat) (fun z=>[(0,.string ⟨⟨rest.drop sz⟩⟩),(3,.slice a3 D.length D.length),(6,.int .u64 ((10^C.length:Nat):Int)),(9,.int .u64 (z.2:Int)),(42,.slice a3 D.length D.length),(43,.int .i64 (D.length:Int)),(44,.int .i64 (z.1.length:Int))])
  (fun z h' n' w=>n'=n1+1∧w=[]∧Ext n h h'∧Gro h' n (n1+1) 164 1 (.slice a3 D.length D.length) D.length (u64s (z.1++D.drop z.1.length))∧z.1.length≤D.length∧WdD z.1∧z.2<18446744073709551616∧wv z.1+z.2*18446744073709551616^z.1.length=wv (D.take z.1.length)*10^C.length+dval C) (fun z=>D.length-z.1.length)
  ([],dval C) ⟨rfl,rfl,rfl,rfl,rfl,rfl,rfl,trivial⟩ ⟨rfl,rfl,hx1.trans hx2 hn1,hgD2,Nat.zero_le _,WdD.nil,by show dval C<_;omega,by simp [wv,dv]⟩ (by show D.length-0<LL;unfold LL;omega) ?_
 rintro ⟨E,c⟩ t h3 _ _ ⟨rfl,rfl,hx3,hg3,hEl,hEd,hc,hV⟩;simp only at hg3 hEl hEd hc hV;refine zN ?_;by_cases hED:E.length=D.length;case neg=>omega
 rw [hED,List.drop_length,List.append_nil] at hg3;rw [hED,List.take_length] at hV;refine sh ?_;refine Za ?_;have hnew:s=(done++C)++rest.drop sz:=by rw [hsr,←hC,List.append_assoc,List.take_append_drop]
 have hdv:dval (done++C)=wv D*10^C.length+dval C:=by rw [uu,hDv]
 have hmeas:(rest.drop sz).length<rest.length:=by rw [List.length_drop];omega
 by_cases hc0:c=0
 ·subst hc0;refine sh ?_;refine Za ?_;rw [Nat.zero_mul,Nat.add_zero] at hV;refine goOn (done++C,rest.drop sz,.slice a3 D.length D.length,E) hmeas ⟨rfl,rfl,trivial⟩ ⟨rfl,by show n≤n1+1;omega,hx3,hnew,by show Gro _ _ _ _ _ _ E.length _;rw [hED];exact hg3,?_,by show wv E=dval (done++C);rw [hV,hdv],.inl (List.drop_eq_nil_of_le zo)⟩;show NW E;rw [List.length_eq_zero_iff.1 (show E.length=0 by omega)];exact NW.nil
 refine sh ?_;refine Zb ?_;repeat refine zR ?_
 refine wn (cs:=[.int .u64 (c:Int)]) R5 ?_;refine kL (m:=1) R8 zd (hg3.ext (Ext.upd zo) zs) (yy (ze _ _ _) R2) (Nat.le_refl _) zo rfl rfl (by show n≤n∧_;omega) ?_;intro v' h5 hg5 hx5 _;obtain ⟨a',rfl,_⟩:=hg5.shape;refine sh ?_;refine goOn (done++C,rest.drop sz,.slice a' (D.length+1) (D.length+1),E++[c]) hmeas ⟨rfl,rfl,trivial⟩ ⟨rfl,by show n≤n1+1+1+1;omega,fun b hb=>(hx5 b hb).trans ((zj zo).trans (hx3 b hb)),hnew,?_,⟨WdD.snoc hEd hc,xc E hc0⟩,?_,.inl (List.drop_eq_nil_of_le zo)⟩
 ·show Gro _ _ _ _ _ _ (E++[c]).length (u64s (E++[c]));rw [jR,List.length_append,hED];exact hg5
 show wv (E++[c])=dval (done++C);rw [wv,sf,hdv,←hV,hED,Nat.mul_comm];rfl
end
theorem yz (n:Nat):gro (3*n+2)=false:=by
 unfold gro;rw [show (3*n+2)%3=2 from zo];rfl
section
variable {E:Env}{h:HF}{n:Nat}{sT e:TypeId}{size bytes:Nat}{z x:Value}
theorem gB {m b:Nat}{new:List Value}(hu:E.und sT=some (.slice e))(hi:E.inf e=some (size,bytes,z))(hz:(zr z).length=size)(h1:1≤size∧1≤bytes)(hx:argS h size x m new)(hb:m*bytes≤1099511627776)(hg:gro b=false)(hm:m≠0):
  yk E h n sT (.slice (some ⟨b,0,none⟩) 0 0) x=some (.val (.slice (some ⟨3*n+1,0,none⟩) m m) (upd h (3*n+1) (some (.row new e))) (n+1) []):=by
 obtain ⟨hl',hc⟩:=hx;have c1:Nat.ble (m*bytes) 1099511627776=true:=Nat.ble_eq_true_of_le hb;have c2:Nat.beq (zr z).length size=true:=by rw [hz];exact Nat.beq_refl _
 have c3:Nat.ble 1 size=true:=Nat.ble_eq_true_of_le h1.1;have c4:Nat.ble 1 bytes=true:=Nat.ble_eq_true_of_le h1.2;have c5:Nat.ble m 0=false:=by
  cases hb:Nat.ble m 0 with
  |false=>rfl
  |true=>have:=Nat.le_of_ble_eq_true hb;omega
 have c6:yb h size 0 (.slice (some ⟨b,0,none⟩) 0 0)=some []:=by simp [yb]
 simp only [yk,hu,hi,hl',hc,Nat.zero_add,c1,c2,c3,c4,c5,c6,Bool.and_self,lR,hg,List.nil_append]
theorem gz {a:Option Addr}{L:Nat}(hu:E.und sT=some (.slice e))(hi:E.inf e=some (size,bytes,z))(hz:(zr z).length=size)(h1:1≤size∧1≤bytes)(hx:argS h size x 0 [])(hb:L*bytes≤1099511627776):
  yk E h n sT (.slice a L L) x=some (.val (.slice a L L) h n []):=by
 obtain ⟨hl',hc⟩:=hx;have c1:Nat.ble (L*bytes) 1099511627776=true:=Nat.ble_eq_true_of_le hb;have c2:Nat.beq (zr z).length size=true:=by rw [hz];exact Nat.beq_refl _
 have c3:Nat.ble 1 size=true:=Nat.ble_eq_true_of_le h1.1;have c4:Nat.ble 1 bytes=true:=Nat.ble_eq_true_of_le h1.2;have c5:Nat.ble L L=true:=Nat.ble_eq_true_of_le (Nat.le_refl _);simp only [yk,hu,hi,hl',hc,Nat.add_zero,c1,c2,c3,c4,c5,Bool.and_self,wZ]
inductive Gr0 (h:HF) (lo n:Nat) (e:TypeId) (sz:Nat):Value→Nat→List Value→Prop
 |gro {v:Value} {len:Nat} {c:List Value} (g:Gro h lo n e sz v len c):Gr0 h lo n e sz v len c
 |emp {m:Nat} (hlo:lo≤m) (hm:m<n):Gr0 h lo n e sz (.slice (some ⟨3*m+2,0,none⟩) 0 0) 0 []
end
theorem iI {m b:Nat}:∀{l:List (Nat×Nat)},(∀x∈l,x.2≠b)→zV m [b] l=true:=by
 intro l;induction l with
 |nil=>intro _;rfl
 |cons x l ih=>
  intro h;obtain ⟨i,c⟩:=x;have hm:memN c [b]=false:=by
   unfold memN;cases he:Nat.beq c b with
   |false=>rfl
   |true=>exact absurd (Nat.eq_of_beq_eq_true he) (h (i,c) (by simp))
  unfold zV;rw [hm,Bool.not_false,Bool.or_true];exact ih fun y hy=>h y (by simp [hy])
section
variable {X:CtxF}{ops r:List Oper}{t:TF}{h:HF}{n:Nat}{w:List Nat}{Q:SV→Prop}{o:Oper}{d:Tmp}
end
section
variable {X:CtxF}{ops r:List Oper}{ms:List Nat}{i m:Nat}{t:TF}{h:HF}{n:Nat}{w:List Nat}{al ld:List (Nat×Nat)}{ef:List (Nat×HF×List Nat)}{Q:SV→Prop}{o:Oper}{d:Tmp}
end
section
variable {cap:Nat}{l:Nat}{a:Option Addr}{s:List UInt8}
theorem Sl.zero {c:Nat}(s:Sl h n 1 (.slice a l c) (u64s A))(ha:a=none):A=[]:=by
 have h1:=s.lenW;by_cases h0:l=0
 ·exact List.length_eq_zero_iff.1 zo
 obtain ⟨b,off,x,cs,e,_⟩:=s.inv h0;rw [ha] at e;cases e
theorem mA (k:Nat){L:List Nat}(hs:Sl h n 1 (.slice a len cap) (u64s L))(hl:L.length<1000000000):CF (cal (k+1)) 179 [.slice a len cap] h n fun v h' n' w=>w=[]∧n≤n'∧Ext n h h'∧Sl h' n' 1 v (u64s L)∧(L≠[]→Gro h' n n' 164 1 v L.length (u64s L)):=by
 refine zk (fn:=Tryz.f179) R4 ?_;have hlen:=hs.lenW;subst hlen;refine zN ?_;refine sh ?_;repeat refine zR ?_
 cases a with
 |none=>
  have hL:=hs.zero rfl;subst hL;refine zN ?_;refine Zb ?_;refine sh ?_;exact retH _ ⟨rfl,(zi rfl),rfl⟩ ⟨rfl,Nat.le_refl _,Ext.refl _ _,.nil (.inl rfl),fun h=>absurd rfl h⟩
 |some ad=>
  refine zN ?_;refine Za ?_;refine wn (cs:=[]) R5 ?_;repeat refine zR ?_
  have hs2:=hs.ext (Ext.upd (h:=h) (b:=3*n+2) (x:=some (.row [] 164)) (show 3*n≤3*n+2 by omega)) (Nat.le_succ n);by_cases hL:L=[]
  ·subst hL;refine yJ R5 (gz (L:=0) rfl rfl rfl zd (uB hs2) zd) ?_;refine sh ?_;exact retH _ ⟨rfl,(zi rfl),rfl⟩ ⟨rfl,Nat.le_succ n,Ext.upd zo,.nil (.inr ⟨_,_,_,rfl,by show 3*n+2<3*(n+1);omega⟩),fun h=>absurd rfl h⟩
  have hL0:L.length≠0:=fun e=>hL (List.length_eq_zero_iff.1 e);refine yJ R5 (gB rfl rfl rfl zd (uB hs2) zo (yz n) hL0) ?_;refine sh ?_;have hg:Gro (upd (upd h (3*n+2) (some (.row [] 164))) (3*(n+1)+1) (some (.row (u64s L) 164))) n (n+1+1) 164 1 (.slice (some ⟨3*(n+1)+1,0,none⟩) L.length L.length) L.length (u64s L):=.at_ (ov (n+1)) zo zo (ze _ _ _) (by rw [yg,Nat.mul_one]) (uJ L);exact retH _ ⟨rfl,(zi rfl),rfl⟩ ⟨rfl,by show n≤n+1+1;omega,(Ext.upd zo).trans (Ext.upd zo) (Nat.le_succ n),hg.sl,fun _=>hg⟩
theorem nw (k:Nat)(h:HF)(n:Nat)(hs:AllD s)(hl:s.length≤19):CF (cal (k+4)) 178 [.string ⟨⟨s⟩⟩,.slice none 0 0] h n fun v h' n' w=>∃L,ResW n h v h' n' w L∧wv L=dval s∧ya n v:=by
 refine zk (fn:=Tryz.f178) R4 ?_;refine zN ?_;refine sh ?_;refine sh ?_;refine zQ (α:=Unit) (fun _=>[(0,.string ⟨⟨s⟩⟩),(5,.int .i64 (-1))]) (fun _ h' n' w=>h=h'∧n=n'∧w=[]) (fun _=>0) () ⟨rfl,rfl,trivial⟩ ⟨rfl,rfl,rfl⟩ (by show 0<LL;decide) ?_;rintro _ t _ _ _ ⟨rfl,rfl,rfl⟩;refine zN ?_;refine sh ?_;refine Za ?_;refine sh ?_;refine Zb ?_;refine zM ?_;refine zu _ R5 (ny k h n hs zo) ?_;rintro v h1 n1 _ ⟨L,⟨rfl,hn1,hx1,hs1,hN⟩,hv,hf⟩;obtain ⟨a,l,c,rfl,_⟩:=hs1.len;refine sh ?_;exact retH _ ⟨rfl,(zi rfl),rfl⟩ ⟨L,⟨rfl,hn1,hx1,hs1,hN⟩,hv,hf⟩
theorem nv (k:Nat)(h:HF)(n:Nat)(hs:AllD s)(hl:s.length≤19):CF (cal (k+5)) 149 [.string ⟨⟨s⟩⟩] h n fun v h' n' w=>∃L,ResW n h v h' n' w L∧wv L=dval s∧ya n v:=by
 refine zk (fn:=Tryz.f149) R4 ?_;refine zN ?_;refine sh ?_;refine sh ?_;refine zM ?_;refine st_I (ik:=.i64) (a:=(s.length:Int)) R5 ?_;refine sh ?_;refine Za ?_;refine Zc ?_;refine zu _ R5 (nw k h n hs hl) ?_;rintro v h1 n1 _ ⟨L,⟨rfl,hn1,hx1,hs1,hN⟩,hv,hf⟩;obtain ⟨a,l,c,rfl,_⟩:=hs1.len;refine sh ?_;exact retH _ ⟨rfl,(zi rfl),rfl⟩ ⟨L,⟨rfl,hn1,hx1,hs1,hN⟩,hv,hf⟩
def NatR (n:Nat)(h:HF)(v:Value)(h':HF)(n':Nat)(w:List Nat)(x:Nat):Prop:=∃a l c L,v=.agg #[.bool false,.slice a l c]∧ResW n h (.slice a l c) h' n' w L∧wv L=x
theorem zac (k:Nat)(h:HF)(n:Nat)(hs:AllD s)(hl:s.length≤19):CF (cal (k+6)) 116 [.string ⟨⟨s⟩⟩] h n fun v h' n' w=>NatR n h v h' n' w (dval s):=by
 refine zk (fn:=Tryz.f116) R4 ?_;refine zN ?_;refine zT R5 ?_;refine Zf ?_;refine zu _ R5 (nv k _ _ hs hl) ?_;rintro v h1 n1 _ ⟨L,⟨rfl,hn1,hx1,hs1,hN⟩,hv,hf⟩;obtain ⟨a,l,c,rfl,_⟩:=hs1.len;have hb:=(hx1 (3*n+2) zo).trans (ze _ _ _);refine zA (v:=.agg #[.bool false,.slice a l c]) R5 ?_;refine zv [.bool false,.slice a l c] R7 rfl hb rfl (by show 3*n≤3*n+2;omega) ?_;refine zN ?_;exact yP R5 (ze _ _ _) rfl ⟨_,_,_,L,rfl,⟨rfl,by show n≤n1;omega,fun b hb=>(zj zo).trans ((hx1 b zo).trans (zj zo)),hs1.off (hf.off zo),hN⟩,hv⟩
theorem px (c:Nat):wv [c]=c:=by simp [wv,dv]
theorem zes {x c:Nat}:Nat.gcd c (x%c)=Nat.gcd x c:=by rw [Nat.gcd_comm,←Nat.gcd_rec,Nat.gcd_comm]
theorem zet (k:Nat)(hG:GK.G h)(hn:20≤n){c1 c2:Nat}(hA:Sl h n 1 (.slice a1 l1 c1) (u64s A))(hC:Sl h n 1 (.slice a2 l2 c2) (u64s C))(nA:NW A)(nC:NW C)(hb:A.length<1000000∧C.length<1000000)(h1:A.length≤1∨C.length≤1):
  CF (cal (k+5)) 150 [.slice a1 l1 c1,.slice a2 l2 c2] h n fun v h' n' w=>∃L,ResW n h v h' n' w L∧wv L=Nat.gcd (wv A) (wv C)∧(ya n v∨v=.slice a1 l1 c1∨v=.slice a2 l2 c2):=by
 refine zk (fn:=Tryz.f150) R4 ?_;refine zN ?_;refine sh ?_;refine Zc ?_;refine z8 _ R5 (sk (k+1) hA hC nA nC zo) ?_;rintro _ rfl;refine pb R6 ?_;simp only [yL,xN,zO,xD];refine yo (α:=(Option Addr×Nat×Nat×List Nat)×(Option Addr×Nat×Nat×List Nat)) (fun z=>[(0,.slice z.1.1 z.1.2.1 z.1.2.2.1),(1,.slice z.2.1 z.2.2.1 z.2.2.2.1)]) (fun z h' n' w=>h=h'∧n=n'∧w=[]∧Sl h n 1 (.slice z.1.1 z.1.2.1 z.1.2.2.1) (u64s z.1.2.2.2)∧Sl h n 1 (.slice z.2.1 z.2.2.1 z.2.2.2.1) (u64s z.2.2.2.2)∧NW z.1.2.2.2∧NW z.2.2.2.2∧z.1.2.2.2.length<1000000∧z.2.2.2.2.length≤1∧Nat.gcd (wv z.1.2.2.2) (wv z.2.2.2.2)=Nat.gcd (wv A) (wv C)∧(Value.slice z.1.1 z.1.2.1 z.1.2.2.1=.slice a1 l1 c1∨Value.slice z.1.1 z.1.2.1 z.1.2.2.1=.slice a2 l2 c2)) ?_ ?_
 ·by_cases hlt:wv A<wv C
  ·rw [zc (by show Value.bool _=_;rw [vn hlt];rfl)];refine zN ?_;refine sh ?_;refine zK ((a2,l2,c2,C),(a1,l1,c1,A)) ⟨rfl,rfl,trivial⟩ ⟨rfl,rfl,rfl,hC,hA,nC,nA,hb.2,?_,Nat.gcd_comm _ _,.inr rfl⟩;show A.length≤1;rcases h1 with h1|h1
   ·exact h1
   rcases Nat.lt_or_ge C.length A.length with hl|hl
   ·have:=nC.len_lt nA hl;omega
   omega
  rw [za (by
   show Value.bool _=_;rcases Nat.lt_or_ge (wv C) (wv A) with h|h
   ·rw [uA h];rfl
   ·rw [show wv A=wv C from zo,oV];rfl)]
  refine zN ?_;refine zK ((a1,l1,c1,A),(a2,l2,c2,C)) ⟨rfl,rfl,trivial⟩ ⟨rfl,rfl,rfl,hA,hC,nA,nC,hb.1,?_,rfl,.inl rfl⟩;show C.length≤1;rcases h1 with h1|h1
  ·rcases Nat.lt_or_ge A.length C.length with hl|hl
   ·have:=nA.len_lt nC hl;omega
   omega
  exact h1
 rintro ⟨⟨a,l,c,X⟩,⟨a',l',c',Y⟩⟩ t _ _ _ ⟨rfl,rfl,rfl,hX,hY,nX,nY,hXl,hY1,hg,hv⟩;simp only at hX hY nX nY hXl hY1 hg hv;rw [←hg];clear hg h1 hb hA hC nA nC;have eX:=hX.lenW;have eY:=hY.lenW;subst eX eY;refine zN ?_;cases Y with
 |nil=>
  refine sh ?_;refine Zb ?_;refine sh ?_;exact retH _ ⟨rfl,(zi rfl),rfl⟩ ⟨X,⟨rfl,Nat.le_refl _,Ext.refl _ _,hX,nX⟩,by rw [show wv []=0 from rfl,Nat.gcd_zero_right],.inr hv⟩
 |cons y Y=>
 have hY0:Y=[]:=by simpa using hY1
 subst hY0;have hy:y<18446744073709551616:=nY.1 y (by simp);have hy0:y≠0:=NW.last (l:=[]) nY;rw [px];rw [show [y].length=1 from rfl] at hY ⊢;refine sh ?_;refine Za ?_;refine zM ?_;refine zu _ R5 (mA (k+3) hX zo) ?_;rintro v5 h2 n2 _ ⟨rfl,hn2,hx2,hs5,_⟩;obtain ⟨a5,l5,c5,rfl,_⟩:=hs5.len;refine zM ?_;refine zu _ R5 (mA (k+3) (L:=[y]) (hY.ext hx2 hn2) (by simp)) ?_;rintro v6 h3 n3 _ ⟨rfl,hn3,hx3,hs6,hg6⟩;obtain ⟨b6,rfl,_,hb6,hb6',hr6,_⟩:=(hg6 (by simp)).inv2 (by simp);rw [show [y].length=1 from rfl];have hx23:Ext n h h3:=hx2.trans hx3 hn2;have hG3:GK.G h3:=sw hG hx23 hn;have hs53:=hs5.ext hx3 hn3;refine sh ?_;refine zQ (α:=Unit) (fun _=>[(5,.slice a5 l5 c5),(6,.slice (some ⟨b6,0,none⟩) 1 1)]) (fun _ h' n' w=>h3=h'∧n3=n'∧w=[]) (fun _=>0) () ⟨rfl,rfl,trivial⟩ ⟨rfl,rfl,rfl⟩ (by show 0<LL;decide) ?_;rintro _ t _ _ _ ⟨rfl,rfl,rfl⟩;refine zN ?_;refine sh ?_;refine Za ?_;refine sh ?_;refine Za ?_;refine zl [0,1,3,0,0,16,48,120,255,511,1023] rfl ?_;repeat refine zD ?_
 refine zL R6 (zF rfl hr6 (v:=.int .u64 (y:Int)) R2) R2 ?_;repeat refine zD ?_
 refine zL R6 (zF rfl hr6 (v:=.int .u64 (y:Int)) R2) R2 ?_;refine ju _ R7 (dk k (l:=X) (d:=y) zo nX.1 ⟨zo,hy⟩ hs53) ?_;rintro _ rfl;refine ju _ R7 (dV (k+2) hG3 n3 hy (Nat.lt_trans (Nat.mod_lt _ zo) hy)) ?_;rintro _ rfl;refine yK _ R7 (ow (k+3) h3 n3 (Nat.lt_of_le_of_lt (Nat.gcd_le_left _ zo) hy)) ?_;rintro v9 h9 n9 _ ⟨L9,⟨rfl,hn9,hx9,hs9,hN9⟩,hv9,hl9,hf9⟩;obtain ⟨a9,l9,c9,rfl,_⟩:=hs9.len;refine ⟨tX,hn9,?_⟩;repeat refine zD ?_
 refine zN ?_;exact retH _ ⟨rfl,(zi rfl),rfl⟩ ⟨L9,⟨rfl,by show n≤n9;omega,hx23.trans hx9 zo,hs9,hN9⟩,by rw [hv9,zes],.inl (hf9.mono zo)⟩
theorem zen (k:Nat){neg:Bool}{c:Nat}{L:List Nat}(hs:Sl h n 1 (.slice a l c) (u64s L))(hN:NW L):VF (cal (k+1)) 118 [.agg #[.bool neg,.slice a l c]] h n fun v=>v=.bool (!neg&&decide (wv L=1)):=by
 refine zw (fn:=Tryz.f118) R4 ?_;have hlen:=hs.lenW;subst hlen;refine zN ?_;refine xy (cs:=[.bool neg,.slice a L.length c]) R5 ?_;generalize hh:upd h (3*n+2) _=h1;have hx1:Ext n h h1:=by rw [←hh];exact Ext.upd zo
 have r1:∃e,h1 (3*n+2)=some (.row [.bool neg,.slice a L.length c] e):=⟨_,by rw [←hh,ze]⟩;obtain ⟨e1,r1⟩:=r1;clear hh;have hs1:=hs.ext hx1 (Nat.le_succ n);refine sh ?_;repeat refine zR ?_
 refine zg R6 r1 (v:=.bool neg) R2 ?_;cases neg with
 |true=>
  refine sh ?_;exact retF _ rfl (zi rfl) R2 rfl
 |false=>
 repeat refine zR ?_
 refine zg R6 r1 (v:=.slice a L.length c) R2 ?_;by_cases h1:L.length=1
 ·obtain ⟨d,rfl⟩:=List.length_eq_one_iff.1 h1;rw [show [d].length=1 from rfl] at r1 hs1 ⊢;repeat refine zR ?_
  refine zg R6 r1 (v:=.slice a 1 c) R2 ?_;refine xi (f:=fun d:Nat=>Value.int .u64 (d:Int)) (l:=[d]) (j:=0) R7 hs1 ⟨rfl,(by simp)⟩ rfl (fun _=>rfl) R4 fun _=>?_;rw [px];by_cases hd:d=1
  ·refine sh ?_;exact retF _ rfl (zi rfl) R2 (by rw [decide_eq_true hd];rfl)
  refine sh ?_;exact retF _ rfl (zi rfl) R2 (by rw [decide_eq_false hd];rfl)
 have hw:wv L≠1:=fun e=>h1 (by rw [hN.inj (NW.one (d:=1) zd zd) (by rw [e,px])];rfl);refine sh ?_;exact retF _ rfl (zi rfl) R2 (by rw [decide_eq_false hw];rfl)
end
section
variable {z:Value}{e:TypeId}{sT:TypeId}{a:Option Addr}{x:Operand}
def i64s (l:List Int):List Value:=l.map (Value.int .i64)
def ExtT (n bt:Nat)(h h':HF):Prop:=∀b,b<3*n→b≠bt→h' b=h b
theorem ExtT.refl (n bt:Nat)(h:HF):ExtT n bt h h:=fun _ _ _=>rfl
theorem Ext.t {n:Nat}{h:HF}(e:Ext n h h'):ExtT n bt h h':=fun k hk _=>e k hk
theorem RatR.old {h:HF}{n m:Nat}{ld:List Nat}{y:Option BF}(r:RatR h n n1 n2 d1 d2 q ln ld)(hf:ya m n2)(hf2:ya m d2)(hb:b<3*m):RatR (upd h b y) n n1 n2 d1 d2 q ln ld:=⟨r.num.old hf hb,r.neg,r.sl.old hf2 hb,r.norm,r.val⟩
theorem z9:∀{W w:List Nat},(∀b∈W,b=bt)→(∀b∈w,b=bt)→∀b∈addW n0 W w,b=bt:=by
 intro W w h1 h2 b hb;rcases yF.1 hb with h|⟨h,_⟩
 ·exact h2 b h
 exact h1 b h
theorem Gro.extT {h:HF}{n:Nat}(g:Gro h lo n e sz v len c)(he:ExtT n bt h h')(hbt:bt<3*lo)(hn:n≤n'):Gro h' lo n' e sz v len c:=by
 cases g with
 |nil=>exact .nil
 |at_ hg hlo hb hr hl ho=>exact .at_ hg hlo zo (by rw [he _ hb zo];exact hr) hl ho
theorem Sl.cap {h:HF}{n:Nat}{cap:Nat}(s:Sl h n sz (.slice a len cap) c):len≤cap:=by
 by_cases h0:len=0
 ·omega
 obtain ⟨_,_,_,_,_,_,_,_,h,_⟩:=s.inv h0;exact h
def strs (l:List (List UInt8)):List Value:=l.map fun s=>Value.string ⟨⟨s⟩⟩
theorem jX (a b:List (List UInt8)):strs (a++b)=strs a++strs b:=by simp [strs]
theorem mJ (a:List (List UInt8)):(strs a).length=a.length:=by simp [strs]
theorem qL {m:Nat}:∀{l:List (Nat×Nat)},xI m l=true→zV m W l=true:=by
 intro l;induction l with
 |nil=>intro _;rfl
 |cons x l ih=>
  intro h;obtain ⟨i,b⟩:=x;unfold xI at h;split at h
  ·rename_i hb;unfold zV;rw [hb,Bool.true_or];exact ih h
  cases h
theorem zap:∀{W:List Nat},(∀c∈W,c=bt)→b≠bt→memN b W=false:=by
 intro W;induction W with
 |nil=>intro _ _;rfl
 |cons c W ih=>
  intro h hb;unfold memN;have hc:=h c (by simp);have:Nat.beq b c=false:=by
   cases he:Nat.beq b c with
   |false=>rfl
   |true=>exact absurd ((Nat.eq_of_beq_eq_true he).trans hc) hb
  rw [this];exact ih (fun x hx=>h x (by simp [hx])) hb
theorem dw {m:Nat}(hW:∀c∈W,c=bt):∀{l:List (Nat×Nat)},(∀x∈l,x.2≠bt)→zV m W l=true:=by
 intro l;induction l with
 |nil=>intro _;rfl
 |cons x l ih=>
  intro h;obtain ⟨i,b⟩:=x;unfold zV;rw [zap hW (h (i,b) (by simp)),Bool.not_false,Bool.or_true];exact ih fun y hy=>h y (by simp [hy])
theorem dE (hb:b≠bt):∀{l:List (Nat×HF×List Nat)},(∀x∈l,∀c∈x.2.2,c=bt)→wa u b l=true:=by
 intro l;induction l with
 |nil=>intro _;rfl
 |cons x l ih=>
  intro h;obtain ⟨e,g,W⟩:=x;unfold wa;rw [zap (h (e,g,W) (by simp)) hb,Bool.not_false,Bool.or_true];exact ih fun y hy=>h y (by simp [hy])
section
variable {X:CtxF}{ops r:List Oper}{ms:List Nat}{i m:Nat}{t:TF}{h:HF}{n:Nat}{w:List Nat}{al ld:List (Nat×Nat)}{ef:List (Nat×HF×List Nat)}{Q:SV→Prop}{o:Oper}{d:Tmp}
theorem zg2 {s:Operand}{mm:Nat}(hw:zh ops t o=true∧o.dst=some d∧zm X.nt (some d)=true∧o.op=.call {callee:=.builtin .append,args:=#[s,x],argTypes:=#[sT,xT]}∧(match X.E.und xT with|some (.int _)=>false|none=>false|_=>true)=true∧X.E.und sT=some (.slice e)∧X.E.inf e=some (size,bytes,z)∧(zr z).length=size)(h1:1≤size∧1≤bytes)(g1:yN m ef=true)(g2:xI m al=true)(g3:xI m ld=true)(hg:Gro h lo n e size (evF t s) len c)(hx:argS h size (evF t x) mm new)(hm:1≤mm)(hb:(len+mm)*bytes≤1099511627776)(hl:new.length=mm*size)(hon:ones new=true)(hlo:X.n0≤lo∧lo≤n)
  (k:∀v' h' W,Gro h' lo (n+1) e size v' (len+mm) (c++new)→Ext lo h h'→Keep (evF t s) n h h'→ya n v'→ED X ops r ms (i+1) ⟨⟨upd t d v',h',n+1,w⟩,al,ld,(i,h,W)::ef⟩ Q):ED X ops (o::r) (m::ms) i ⟨⟨t,h,n,w⟩,al,ld,ef⟩ Q:=by
 obtain ⟨hw,hd,hn,ho,hxT,hu,hi,hz⟩:=hw;obtain ⟨v',h',W,h2,h3,h4,h6,h5,h7⟩:=wt hu hi hz h1 hg hx hm hb hl hon hlo.2;refine oM hw hd hn ho hxT h2 g1 g2 (qL g3) zs ?_;rw [yc fun b hb=>by have:=h5 b hb;omega];exact k v' h' W h3 h4 h6 h7
theorem oK (P:Value→HF→Nat→List Nat→Prop)(hw:zh ops t o=true∧o.dst=some d∧zm X.nt (some d)=true∧cls o.op=3∧effF X.E o.op (evF t) h n=some (.enter f args)∧yN m ef=true∧xI m al=true)(hcall:CF X.C f args h n P)(hP:∀v h' n' W,P v h' n' W→(∀b∈W,b=bt)∧n≤n')(hld:∀x∈ld,x.2≠bt)
  (k:∀v h' n' W,P v h' n' W→ED X ops r ms (i+1) ⟨⟨upd t d v,h',n',addW X.n0 W w⟩,al,ld,(i,h,W)::ef⟩ Q):ED X ops (o::r) (m::ms) i ⟨⟨t,h,n,w⟩,al,ld,ef⟩ Q:=by obtain ⟨hw,hd,hn,hc,he,h1,h2⟩:=hw;exact yK P ⟨hw,hd,hn,hc,he,h1,h2⟩ hcall fun v h' n' W hp=>⟨dw (hP v h' n' W hp).1 hld,(hP v h' n' W hp).2,k v h' n' W hp⟩
end
def Pt (φ:Nat→Prop)(v:Value):Prop:=∀a l c,v=.slice (some a) l c→φ a.block
theorem Pt.of_fresh {n:Nat}(h:ya n v):Pt (fun b=>3*n≤b) v:=fun a l c e=>by subst e;exact h
theorem Pt.of_below {n:Nat}(h:Below n v):Pt (fun b=>b<3*n) v:=fun a l c e=>by subst e;exact h
end
section
variable {cap:Nat}{l:Nat}{e:TypeId}{sT:TypeId}{x:Operand}{z:Value}
theorem ks {h:HF}{n:Nat}{P:Value→HF→Nat→List Nat→Prop}(hf:GK.orc f args=none∧env.fn f=some fn∧fn.body=some body∧Nat.ble args.length fn.ntmps=true)
  (hx:EC (ctx k n fn.ntmps) body ⟨nE args,h,n,[]⟩ fun e s=>sc e=true∧∃vs,resF env s fn.results.toList=some vs∧P (qb vs) s.h s.n s.w∧(s.w=[]→P (qb vs) h n [])):CF (cal (k+1)) f args h n P:=by
 obtain ⟨hf,hfn,hb,hle⟩:=hf;refine pw hf hfn hb hle (uV hx fun e s ⟨h1,vs,h2,h3,h4⟩=>⟨h1,vs,h2,?_⟩);unfold endF;split
 ·rename_i hw;exact h4 hw
 exact h3
section
variable {X:CtxF}{ops r:List Oper}{t:TF}{h:HF}{n:Nat}{w:List Nat}{Q:SV→Prop}{o:Oper}{d:Tmp}
theorem upd_self {x:Option BF}(hb:h b=x):upd h b x=h:=by
 funext j;by_cases e:j=b
 ·rw [e,ze,hb]
 rw [zj e]
theorem eH {w:List Nat}:addW n0 [] w=w:=rfl
theorem zdl {s:Operand}{dLen:Nat}(hw:zh ops t o=true)(hd:o.dst=some d)(hn:zm X.nt (some d)=true)(ho:o.op=.call {callee:=.builtin .copy,args:=#[s,x],argTypes:=#[sT,xT]})(hu:X.E.und sT=some (.slice e))(hi:X.E.inf e=some (size,bytes,z))
  (hs:evF t s=.slice (some ⟨b,0,none⟩) dLen cap)(hx:argS h size (evF t x) m cs)(hm:m≤dLen)(hb:h b=some (.row c e3))(hl:cs.length≤c.length)(h1:ones cs=true)(hnew:3*X.n0≤b)
  (k:EO X ops r ⟨upd t d (.int .i64 (m:Int)),upd h b (some (.row (cs++c.drop cs.length) e3)),n,w⟩ Q):EO X ops (o::r) ⟨t,h,n,w⟩ Q:=by
 have hmin:Nat.min m dLen=m:=Nat.min_eq_left hm;have hc:∃W,cv X.E h n sT (evF t s) (evF t x)=some (.val (.int .i64 (m:Int)) (upd h b (some (.row (cs++c.drop cs.length) e3))) n W)∧∀y∈W,y=b:=by
  obtain ⟨h2,h3⟩:=hx;cases cs with
  |nil=>
   refine ⟨[],?_,fun y hy=>by cases hy⟩;rw [List.nil_append,List.length_nil,List.drop_zero,upd_self hb];simp only [cv,hu,hi,hs,h2,hmin,h3];rfl
  |cons v cs=>
   refine ⟨[b],?_,fun y hy=>List.mem_singleton.1 hy⟩;have hst:ub h ⟨b,0,none⟩ (v::cs)=some (upd h b (some (.row ((v::cs)++c.drop (v::cs).length) e3))):=by
    rw [rM hb zo h1];unfold zn;rw [List.take_zero,List.nil_append,Nat.zero_add]
   simp only [cv,hu,hi,hs,h2,hmin,h3,hst];rfl
 obtain ⟨W,hc,hW⟩:=hc;have he:effF X.E o.op (evF t) h n=some (.val (.int .i64 (m:Int)) (upd h b (some (.row (cs++c.drop cs.length) e3))) n W):=by
  rw [ho];exact hc
 rw [qY hw (by rw [hd];exact hn) (by rw [ho];rfl) he,hd,yc fun y hy=>by rw [hW y hy];exact hnew];exact k
end
theorem Sl.extW {h:HF}{n:Nat}(s:Sl h n sz v c)(e:ExtT n b h h')(ho:Off b v):Sl h' n sz v c:=
 s.keep (fun a l cap ev=>by
  have hb:=s.below;subst ev;exact e _ hb ho) (Nat.le_refl _)
theorem aG {h:HF}{n:Nat}{X:List Nat}(hb:b<3*n)(hr:h b=some (.row (u64s X) e))(hc:X.length≤cap):Sl h n 1 (.slice (some ⟨b,0,none⟩) X.length cap) (u64s X):=.at_ hb hr rfl hc (by rw [yg];omega) (by rw [List.drop_zero,List.take_of_length_le (by rw [yg];omega)])
theorem iS {D X:List Nat}{x:Nat}(hx:X[D.length]?=some x):(D++X.drop D.length)[D.length]?=some x:=by
 rw [List.getElem?_append_right (Nat.le_refl _),Nat.sub_self,List.getElem?_drop,Nat.add_zero,hx]
theorem xa {X:List Nat}{x:Nat}(hx:X[j]?=some x):wv (X.take (j+1))=wv (X.take j)+18446744073709551616^j*x:=xk hx
theorem rH (D:List Nat)(d:Nat):wv (D++[d])=wv D+18446744073709551616^D.length*d:=sf _ _ _
theorem qC (D E:List Nat):wv (D++E)=wv D+18446744073709551616^D.length*wv E:=uO _ _ _
theorem zc4 (X:List Nat)(j:Nat)(hj:j≤X.length):wv X=wv (X.take j)+18446744073709551616^j*wv (X.drop j):=by
 conv=>lhs;rw [←List.take_append_drop j X]
 rw [qC,List.length_take,Nat.min_eq_left hj]
theorem kD {W x y c s:Nat}(hV:V+W=U+c*P)(hs:s+y+c=x+18446744073709551616*c'):V+P*s+(W+P*y)=U+P*x+c'*(P*18446744073709551616):=by
 have:P*(s+y+c)=P*(x+18446744073709551616*c'):=by rw [hs]
 rw [Nat.mul_add,Nat.mul_add,Nat.mul_add,←Nat.mul_assoc] at this;rw [Nat.mul_comm c' (P*18446744073709551616)];rw [Nat.mul_comm c P] at hV;omega
theorem nK {x y c:Nat}(hx:x<18446744073709551616)(hy:y<18446744073709551616)(hc:c≤1):(x+18446744073709551616-y-c)%18446744073709551616+y+c=x+18446744073709551616*(if y+c≤x then 0 else 1):=by
 by_cases h:y+c≤x
 ·rw [if_pos h];omega
 rw [if_neg h];omega
def RowW (n:Nat)(h:HF)(b:Nat)(e:TypeId)(h':HF)(n':Nat)(w:List Nat)(L:List Nat):Prop:=(∀c∈w,c=b)∧n'=n∧ExtT n b h h'∧h' b=some (.row (u64s L) e)
theorem eO (k:Nat){h:HF}{n cX cY:Nat}{aY:Option Addr}{X Y:List Nat}(hb:b<3*n)(hrow:h b=some (.row (u64s X) e))(hcX:X.length≤cX)(hX:WdD X)(hYs:Sl h n 1 (.slice aY l cY) (u64s Y))(hY:WdD Y)(ho:Off b (.slice aY l cY))(hl:Y.length≤X.length)(hbig:X.length<1000000000)(hv:wv Y≤wv X):
  CF (cal (k+1)) 195 [.slice (some ⟨b,0,none⟩) X.length cX,.slice aY l cY] h n fun _ h' n' w=>∃L,RowW n h b e h' n' w L∧WdD L∧L.length=X.length∧wv L+wv Y=wv X:=by
 refine ks (fn:=Tryz.f195) R4 ?_;have hlY:=hYs.lenW;subst hlY;have fin:∀(t:TF) (h':HF) (w:List Nat) (D:List Nat) (c:Nat),(∀x∈w,x=b)→ExtT n b h h'→(w=[]→h'=h)→h' b=some (.row (u64s (D++X.drop D.length)) e)→D.length≤X.length→WdD D→wv D+wv Y=wv (X.take D.length)+c*18446744073709551616^D.length→c=0→(sc .normal=true∧∃vs,resF env ⟨t,h',n,w⟩ (Tryz.f195).results.toList=some vs∧(∃L,RowW n h b e h' n w L∧WdD L∧L.length=X.length∧wv L+wv Y=wv X)∧(w=[]→∃L,RowW n h b e h n [] L∧WdD L∧L.length=X.length∧wv L+wv Y=wv X)):=by
  intro t h' w D c g1 g2 g3 g4 g5 g6 g7 g8;have hL:∃L,RowW n h b e h' n w L∧WdD L∧L.length=X.length∧wv L+wv Y=wv X:=⟨_,⟨g1,rfl,g2,g4⟩,g6.append (hX.drop _),by rw [List.length_append,List.length_drop];omega,by
   subst g8;rw [qC];have h1:=zc4 X D.length g5;omega⟩
  refine ⟨rfl,[],rfl,hL,fun hw=>?_⟩;subst hw;rw [g3 rfl] at hL;exact hL
 refine zN ?_;refine sh ?_;refine sh ?_;refine zQ (α:=List Nat×Nat) (fun z=>[(0,.slice (some ⟨b,0,none⟩) X.length cX),(1,.slice aY Y.length cY),(4,.int .u64 (z.2:Int)),(8,.slice aY Y.length cY),(9,.int .i64 (Y.length:Int)),(10,.int .i64 (z.1.length:Int))])
  (fun z h' n' w=>n=n'∧(∀x∈w,x=b)∧ExtT n b h h'∧(w=[]→h'=h)∧h' b=some (.row (u64s (z.1++X.drop z.1.length)) e)∧z.1.length≤Y.length∧WdD z.1∧z.2≤1∧wv z.1+wv (Y.take z.1.length)=wv (X.take z.1.length)+z.2*18446744073709551616^z.1.length) (fun z=>Y.length-z.1.length)
  ([],0) ⟨rfl,rfl,rfl,rfl,rfl,rfl,trivial⟩ ⟨rfl,fun x hx=>absurd hx List.not_mem_nil,ExtT.refl _ _ _,fun _=>rfl,hrow,Nat.zero_le _,WdD.nil,by show (0:Nat)≤1;decide,by simp [wv,dv]⟩ (by show Y.length-0<LL;unfold LL;omega) ?_
 rintro ⟨D,c⟩ t h1 _ w ⟨rfl,hw,hx1,hw0,hr1,hD,hDd,hc,hV⟩;simp only at hr1 hD hDd hc hV;refine zN ?_;by_cases hDY:D.length=Y.length;case neg=>
  obtain ⟨y,hy⟩:∃y,Y[D.length]?=some y:=⟨Y[D.length]'zo,List.getElem?_eq_getElem zo⟩;obtain ⟨x,hx⟩:∃x,X[D.length]?=some x:=⟨X[D.length]'zo,List.getElem?_eq_getElem zo⟩;have hyl:=hY.get hy;have hxl:=hX.get hx;have hZ:=aG (cap:=cX) hb hr1 (by rw [List.length_append,List.length_drop];omega);rw [show (D++X.drop D.length).length=X.length from by rw [List.length_append,List.length_drop];omega] at hZ;refine sh ?_;refine Zb ?_;repeat refine zR ?_
  refine xi (f:=fun d:Nat=>Value.int .u64 (d:Int)) (j:=D.length) R7 (hYs.extW hx1 ho) R2 hy (fun _=>rfl) R4 fun _=>?_;refine sh ?_;repeat refine zR ?_
  refine xi (f:=fun d:Nat=>Value.int .u64 (d:Int)) (j:=D.length) R7 hZ R2 (iS hx) (fun _=>rfl) R4 fun _=>?_;repeat refine zR ?_
  refine gY (x:=x) (y:=y) (c:=c) R5 hc ?_;obtain ⟨s,hs⟩:∃s,s=(x+18446744073709551616-y-c)%18446744073709551616:=⟨_,rfl⟩;obtain ⟨c',hc'⟩:∃c',c'=(if y+c≤x then 0 else 1):=⟨_,rfl⟩;rw [←hs,←hc'];repeat refine zR ?_
  refine yW (j:=D.length) (off:=0) (v:=.int .u64 (s:Int)) R8 rfl ⟨zo,by rw [yg,List.length_append,List.length_drop];omega⟩ hr1 hb (fun _=>rfl) R3 (fun _=>rfl) rfl fun _=>?_;rw [Nat.zero_add,uX,mT _ hx];refine sh ?_;refine sh ?_;have hsl:s<18446744073709551616:=by rw [hs];exact Nat.mod_lt _ zd
  have hcl:c'≤1:=by rw [hc'];split<;>decide
  have hsc:s+y+c=x+18446744073709551616*c':=by rw [hs,hc'];exact nK hxl (by first|exact hyl|decide) hc
  refine goOn (D++[s],c') (by show Y.length-(D++[s]).length<Y.length-D.length;rw [List.length_append,List.length_singleton];omega) ⟨rfl,rfl,rfl,rfl,rfl,by show Value.int .i64 _=Value.int .i64 _;rw [List.length_append];rfl,trivial⟩ ⟨rfl,fun z hz=>by
   rcases List.mem_cons.1 hz with rfl|hz
   ·rfl
   ·exact hw z hz,fun z hz hzb=>(zj hzb).trans (hx1 z hz hzb),fun h=>(by cases h),ze _ _ _,by show (D++[s]).length≤_;rw [List.length_append,List.length_singleton];omega,WdD.snoc hDd hsl,hcl,?_⟩
  simp only;rw [List.length_append,List.length_singleton,rH,xa hx,xa hy,Nat.pow_succ];have:=kD hV hsc;omega
 have hYt:Y.take D.length=Y:=by rw [hDY,List.take_length]
 rw [hYt] at hV;refine sh ?_;refine Za ?_;refine sh ?_;refine zQ (α:=List Nat×Nat) (fun z=>[(0,.slice (some ⟨b,0,none⟩) X.length cX),(4,.int .u64 (z.2:Int)),(7,.int .i64 (z.1.length:Int))])
  (fun z h' n' w=>n=n'∧(∀x∈w,x=b)∧ExtT n b h h'∧(w=[]→h'=h)∧h' b=some (.row (u64s (z.1++X.drop z.1.length)) e)∧z.1.length≤X.length∧WdD z.1∧z.2≤1∧wv z.1+wv Y=wv (X.take z.1.length)+z.2*18446744073709551616^z.1.length) (fun z=>X.length-z.1.length)
  (D,c) ⟨rfl,rfl,by show Value.int .i64 _=Value.int .i64 _;rw [hDY],trivial⟩ ⟨rfl,hw,hx1,hw0,hr1,by show D.length≤_;omega,hDd,hc,hV⟩ (by show X.length-D.length<LL;unfold LL;omega) ?_
 clear hV hc hDd hr1 hw0 hx1 hw hYt hDY hD;rintro ⟨D,c⟩ t h1 _ w ⟨rfl,hw,hx1,hw0,hr1,hD,hDd,hc,hV⟩;simp only at hr1 hD hDd hc hV;refine zN ?_;by_cases hc0:c=0
 ·refine sh ?_;refine Za ?_;exact fin _ _ _ D c hw hx1 hw0 hr1 hD hDd hV hc0
 by_cases hDX:D.length=X.length
 ·refine sh ?_;refine Za ?_;refine fin _ _ _ D c hw hx1 hw0 hr1 hD hDd hV ?_;have hDl:=zjy hDd;rw [hDX,List.take_length] at hV;rw [hDX] at hDl;rcases Nat.eq_zero_or_pos c with h|h
  ·exact h
  have:=Nat.mul_le_mul_right (18446744073709551616^X.length) h;omega
 obtain ⟨x,hx⟩:∃x,X[D.length]?=some x:=⟨X[D.length]'zo,List.getElem?_eq_getElem zo⟩;have hxl:=hX.get hx;have hZ:=aG (cap:=cX) hb hr1 (by rw [List.length_append,List.length_drop];omega);rw [show (D++X.drop D.length).length=X.length from by rw [List.length_append,List.length_drop];omega] at hZ;refine sh ?_;refine Zb ?_;repeat refine zR ?_
 refine xi (f:=fun d:Nat=>Value.int .u64 (d:Int)) (j:=D.length) R7 hZ R2 (iS hx) (fun _=>rfl) R4 fun _=>?_;repeat refine zR ?_
 refine gY (x:=x) (y:=0) (c:=c) R5 hc ?_;obtain ⟨s,hs⟩:∃s,s=(x+18446744073709551616-0-c)%18446744073709551616:=⟨_,rfl⟩;obtain ⟨c',hc'⟩:∃c',c'=(if 0+c≤x then 0 else 1):=⟨_,rfl⟩;rw [←hs,←hc'];repeat refine zR ?_
 refine yW (j:=D.length) (off:=0) (v:=.int .u64 (s:Int)) R8 rfl ⟨zo,by rw [yg,List.length_append,List.length_drop];omega⟩ hr1 hb (fun _=>rfl) R3 (fun _=>rfl) rfl fun _=>?_;rw [Nat.zero_add,uX,mT _ hx];refine sh ?_;refine sh ?_;have hsl:s<18446744073709551616:=by rw [hs];exact Nat.mod_lt _ zd
 have hcl:c'≤1:=by rw [hc'];split<;>decide
 have hsc:s+0+c=x+18446744073709551616*c':=by rw [hs,hc'];exact nK hxl (by first|exact hyl|decide) hc
 refine goOn (D++[s],c') (by show X.length-(D++[s]).length<X.length-D.length;rw [List.length_append,List.length_singleton];omega) ⟨rfl,rfl,by show Value.int .i64 _=Value.int .i64 _;rw [List.length_append];rfl,trivial⟩ ⟨rfl,fun z hz=>by
  rcases List.mem_cons.1 hz with rfl|hz
  ·rfl
  ·exact hw z hz,fun z hz hzb=>(zj hzb).trans (hx1 z hz hzb),fun h=>(by cases h),ze _ _ _,by show (D++[s]).length≤_;rw [List.length_append,List.length_singleton];omega,WdD.snoc hDd hsl,hcl,?_⟩
 simp only;rw [List.length_append,List.length_singleton,rH,xa hx,Nat.pow_succ];have:=kD hV hsc;omega
theorem gI {n:Nat}{h:HF}{L:List Nat}(hb:b<3*n)(hr:h b=some (.row (u64s L) e))(hl:L.length=l):Sl h n 1 (.slice (some ⟨b,0,none⟩) l l) (u64s L):=by
 subst hl;exact aG hb hr (Nat.le_refl _)
theorem pi {L:List Nat}(h:WdD L):NW (yC L)∧wv (yC L)=wv L:=⟨NW.trim h,gQ _ _⟩
def zmt (n:Nat)(v u1 u2:Value):Prop:=ya n v∨v=u1∨v=u2
end
section
variable {e:TypeId}{x:Operand}{cap:Nat}{l:Nat}{off:Nat}{z:Value}
section
variable {X:CtxF}{ops r:List Oper}{t:TF}{h:HF}{n:Nat}{w:List Nat}{Q:SV→Prop}{o:Oper}{d:Tmp}
theorem sU {lo:Operand}{j j':Int}(m m':Nat)(hw:zh ops t o=true∧o.dst=some d∧zm X.nt (some d)=true∧o.op=.slice ty x (some lo) (some hi) none∧X.E.und ty=some (.slice e)∧X.E.inf e=some (sz,bt,z)∧evF t x=.slice (some ⟨b,off,none⟩) len cap∧evF t lo=.int ik j∧evF t hi=.int ik' j')(hm:j=(m:Int))(hm':j'=(m':Int))(hr:m≤m'∧m'≤cap∧m<cap)
  (k:EO X ops r ⟨upd t d (.slice (some ⟨b,off+m*sz,none⟩) (m'-m) (cap-m)),h,n,w⟩ Q):EO X ops (o::r) ⟨t,h,n,w⟩ Q:=by
 obtain ⟨hw,hd,hn,ho,hu,hi',hx,hj,hj'⟩:=hw;refine zA ⟨hw,hd,hn,(by rw [ho];rfl),?_⟩ k;rw [ho];subst hm hm';show yS X.E ty (evF t x) (some (evF t lo)) (some (evF t hi))=_;rw [hx,hj,hj'];have h1:(0:Int)≤(m':Int)∧(m':Int)≤cap:=zo;have h0:(0:Int)≤(m:Int)∧(m:Int)≤m':=zo;have hb:Nat.ble cap m=false:=by
  cases hb:Nat.ble cap m with
  |false=>rfl
  |true=>have:=Nat.le_of_ble_eq_true hb;omega
 have h2:(gro b&&(Nat.ble 1 m&&Nat.ble cap m))=false:=by rw [hb];simp
 have h3:offA cap m sz ⟨b,off,none⟩=⟨b,off+m*sz,none⟩:=by
  unfold offA;have:Nat.beq cap m=false:=by
   cases hb:Nat.beq cap m with
   |false=>rfl
   |true=>have:=Nat.eq_of_beq_eq_true hb;omega
  rw [this,wm]
 simp only [yS,hu,hi',bnd,if_pos h1,if_pos h0,Int.toNat_natCast,h2,h3]
end
theorem zjz {h:HF}{n:Nat}{P S:List Nat}(hb:b<3*n)(hr:h b=some (.row (u64s (P++(Z++S))) e))(hc:Z.length≤cap):Sl h n 1 (.slice (some ⟨b,P.length,none⟩) Z.length cap) (u64s Z):=by
 refine .at_ hb hr rfl hc (by rw [yg];simp only [List.length_append];omega) ?_;rw [bI,kA,List.drop_left' rfl,Nat.mul_one,List.take_left' rfl]
theorem zht {P S D:List Nat}{x:Nat}(d:Nat)(hx:Z[D.length]?=some x):(P++((D++Z.drop D.length)++S)).set (P.length+D.length) d=P++(((D++[d])++Z.drop (D++[d]).length)++S):=by
 have hl:D.length<Z.length:=(List.getElem?_eq_some_iff.1 hx).1;rw [List.set_append_right _ _ zo,show P.length+D.length-P.length=D.length from zo,List.set_append_left _ _ (by rw [List.length_append,List.length_drop];omega),mT d hx]
theorem zk4 {v w:Nat}(hv:v<18446744073709551616)(hw:w<18446744073709551616):v*w≤340282366920938463426481119284349108225:=Nat.le_trans (Nat.mul_le_mul (Nat.le_sub_one_of_lt hv) (Nat.le_sub_one_of_lt hw)) zd
theorem zee {W z v w c s:Nat}(hV:V+c*P=U+W*w)(hs:18446744073709551616*c'+s=z+v*w+c):V+P*s+c'*(P*18446744073709551616)=U+P*z+(W+P*v)*w:=by
 have:P*(18446744073709551616*c'+s)=P*(z+v*w+c):=by rw [hs]
 rw [Nat.mul_add,Nat.mul_add,Nat.mul_add,←Nat.mul_assoc] at this;rw [Nat.mul_comm c' (P*18446744073709551616),Nat.add_mul,Nat.mul_assoc P v w];rw [Nat.mul_comm c P] at hV;omega
theorem mD (k:Nat){h:HF}{n cZ cX:Nat}{aX:Option Addr}{P S X:List Nat}{w:Nat}(hb:b<3*n)(hrow:h b=some (.row (u64s (P++(Z++S))) e))(hcZ:Z.length≤cZ)(hZ:WdD Z)(hXs:Sl h n 1 (.slice aX l cX) (u64s X))(hX:WdD X)(ho:Off b (.slice aX l cX))(hl:Z.length=X.length)(hbig:X.length<1000000000)(hw:w<18446744073709551616):
  CF (cal (k+2)) 196 [.slice (some ⟨b,P.length,none⟩) Z.length cZ,.slice aX l cX,.int .u64 (w:Int)] h n fun v h' n' W=>∃(L:List Nat) (c:Nat),v=.int .u64 (c:Int)∧c<18446744073709551616∧RowW n h b e h' n' W (P++(L++S))∧WdD L∧L.length=Z.length∧wv L+c*18446744073709551616^Z.length=wv Z+wv X*w:=by
 refine ks (fn:=Tryz.f196) R4 ?_;have hlX:=hXs.lenW;subst hlX;refine zN ?_;refine sh ?_;refine sh ?_;refine sh ?_;refine zQ (α:=List Nat×Nat) (fun z=>[(0,.slice (some ⟨b,P.length,none⟩) Z.length cZ),(2,.int .u64 (w:Int)),(7,.int .u64 (z.2:Int)),(14,.slice aX X.length cX),(15,.int .i64 (X.length:Int)),(16,.int .i64 (z.1.length:Int))])
  (fun z h' n' W=>n=n'∧(∀x∈W,x=b)∧ExtT n b h h'∧(W=[]→h'=h)∧h' b=some (.row (u64s (P++((z.1++Z.drop z.1.length)++S))) e)∧z.1.length≤X.length∧WdD z.1∧z.2<18446744073709551616∧wv z.1+z.2*18446744073709551616^z.1.length=wv (Z.take z.1.length)+wv (X.take z.1.length)*w) (fun z=>X.length-z.1.length)
  ([],0) ⟨rfl,rfl,rfl,rfl,rfl,rfl,trivial⟩ ⟨rfl,fun x hx=>absurd hx List.not_mem_nil,ExtT.refl _ _ _,fun _=>rfl,hrow,Nat.zero_le _,WdD.nil,by show (0:Nat)<_;decide,by simp [wv,dv]⟩ (by show X.length-0<LL;unfold LL;omega) ?_
 rintro ⟨D,c⟩ t h1 _ W ⟨rfl,hW,hx1,hw0,hr1,hD,hDd,hc,hV⟩;simp only at hr1 hD hDd hc hV;refine zN ?_;by_cases hDX:D.length=X.length
 ·refine sh ?_;refine Za ?_;refine sh ?_;have hZd:Z.drop D.length=[]:=by rw [hDX,←hl,List.drop_length]
  rw [hZd,List.append_nil] at hr1;rw [hDX,List.take_length,←hl,List.take_length] at hV;have hL:∃(L:List Nat) (c':Nat),Value.int .u64 (c:Int)=.int .u64 (c':Int)∧c'<18446744073709551616∧RowW n h b e h1 n W (P++(L++S))∧WdD L∧L.length=Z.length∧wv L+c'*18446744073709551616^Z.length=wv Z+wv X*w:=⟨D,c,rfl,hc,⟨hW,rfl,hx1,hr1⟩,hDd,zo,hV⟩;refine ⟨rfl,[.int .u64 (c:Int)],rfl,hL,fun hw=>?_⟩;have hw:W=[]:=hw;subst hw;rw [hw0 rfl] at hL;exact hL
 obtain ⟨v,hv⟩:∃x,X[D.length]?=some x:=⟨X[D.length]'zo,List.getElem?_eq_getElem zo⟩;obtain ⟨z,hz⟩:∃x,Z[D.length]?=some x:=⟨Z[D.length]'zo,List.getElem?_eq_getElem zo⟩;have hvl:=hX.get hv;have hzl:=hZ.get hz;have hlen:(D++Z.drop D.length).length=Z.length:=by rw [List.length_append,List.length_drop];omega
 have hZs:=zjz (cap:=cZ) hb hr1 zo;rw [hlen] at hZs;have hvw:=zk4 hvl hw;refine sh ?_;refine Zb ?_;repeat refine zR ?_
 refine xi (f:=fun d:Nat=>Value.int .u64 (d:Int)) (j:=D.length) R7 (hXs.extW hx1 ho) R2 hv (fun _=>rfl) R4 fun _=>?_;refine sh ?_;repeat refine zR ?_
 refine z8 _ R5 (zd9 k h1 n hvl hw) ?_;rintro _ rfl;obtain ⟨p,hp⟩:∃p,p=v*w:=⟨_,rfl⟩;rw [←hp] at hvw ⊢;obtain ⟨hi,hhi⟩:∃x,x=p/18446744073709551616:=⟨_,rfl⟩;obtain ⟨lo,hlo⟩:∃x,x=p%18446744073709551616:=⟨_,rfl⟩;rw [←hhi,←hlo];refine sh ?_;repeat refine zR ?_
 refine mN (x:=lo) (y:=c) (c:=0) R5 zd ?_;obtain ⟨s1,hs1⟩:∃x,x=(lo+c+0)%18446744073709551616:=⟨_,rfl⟩;obtain ⟨c1,hc1⟩:∃x,x=(lo+c+0)/18446744073709551616:=⟨_,rfl⟩;rw [←hs1,←hc1];refine sh ?_;refine Zc ?_;refine ws (a:=hi) (b:=c1) R6 zo ?_;refine sh ?_;repeat refine zR ?_
 refine xi (f:=fun d:Nat=>Value.int .u64 (d:Int)) (j:=D.length) R7 hZs R2 (iS hz) (fun _=>rfl) R4 fun _=>?_;repeat refine zR ?_
 refine mN (x:=z) (y:=s1) (c:=0) R5 zd ?_;obtain ⟨s2,hs2⟩:∃x,x=(z+s1+0)%18446744073709551616:=⟨_,rfl⟩;obtain ⟨c2,hc2⟩:∃x,x=(z+s1+0)/18446744073709551616:=⟨_,rfl⟩;rw [←hs2,←hc2];repeat refine zR ?_
 refine yW (j:=D.length) (off:=P.length) (v:=.int .u64 (s2:Int)) R8 rfl ⟨zo,by rw [yg,List.length_append,List.length_append,hlen];omega⟩ hr1 hb (fun _=>rfl) R3 (fun _=>rfl) rfl fun _=>?_;rw [uX,zht _ hz];refine sh ?_;refine Zc ?_;refine ws (a:=hi+c1) (b:=c2) R6 zo ?_;refine sh ?_;refine sh ?_;refine goOn (D++[s2],hi+c1+c2) (by show X.length-(D++[s2]).length<X.length-D.length;rw [List.length_append,List.length_singleton];omega) ⟨rfl,rfl,rfl,rfl,rfl,by show Value.int .i64 _=Value.int .i64 _;rw [List.length_append];rfl,trivial⟩ ⟨rfl,fun x hx=>by
  rcases List.mem_cons.1 hx with rfl|hx
  ·rfl
  ·exact hW x hx,fun y hy hyb=>(zj hyb).trans (hx1 y hy hyb),fun h=>(by cases h),ze _ _ _,by show (D++[s2]).length≤_;rw [List.length_append,List.length_singleton];omega,WdD.snoc hDd zo,by show hi+c1+c2<_;omega,?_⟩
 simp only;rw [List.length_append,List.length_singleton,rH,xa hv,xa hz,Nat.pow_succ];exact zee hV (by rw [←hp];omega)
theorem dJ {P X L:List Nat}{w c:Nat}(hL:L.length=Z.length)(hV:wv L+c*18446744073709551616^Z.length=wv Z+wv X*w):wv (P++(L++[c]))=wv (P++Z)+wv X*(18446744073709551616^P.length*w):=by
 rw [qC,qC P Z,rH,hL,Nat.mul_comm _ c,hV,Nat.mul_add,Nat.mul_left_comm];omega
theorem iR (k:Nat){h:HF}{n:Nat}{c1 c2:Nat}(hA:Sl h n 1 (.slice a1 l1 c1) (u64s A))(hC:Sl h n 1 (.slice a2 l2 c2) (u64s C))(nA:NW A)(nC:NW C)(hb:A.length<100000000∧C.length<100000000)(h40:A.length<40∨C.length<40):
  CF (cal (k+3)) 158 [.slice a1 l1 c1,.slice a2 l2 c2] h n fun v h' n' w=>∃L,ResW n h v h' n' w L∧wv L=wv A*wv C∧zmt n v (.slice a1 l1 c1) (.slice a2 l2 c2):=by
 refine zk (fn:=Tryz.f158) R4 ?_;have e1:=hA.lenW;have e2:=hC.lenW;subst e1 e2;refine zN ?_;refine sh ?_;refine zM ?_;refine st_I (ik:=.i64) (a:=(A.length:Int)) R5 ?_;refine zM ?_;refine st_I (ik:=.i64) (a:=(C.length:Int)) R5 ?_;refine pb R6 ?_;simp only [yL,xN,zO,xD];refine yo (α:=(Option Addr×Nat×List Nat)×(Option Addr×Nat×List Nat)) (fun z=>[(0,.slice z.1.1 z.1.2.2.length z.1.2.1),(1,.slice z.2.1 z.2.2.2.length z.2.2.1)]) (fun z h' n' w=>h=h'∧n=n'∧w=[]∧Sl h n 1 (.slice z.1.1 z.1.2.2.length z.1.2.1) (u64s z.1.2.2)∧Sl h n 1 (.slice z.2.1 z.2.2.2.length z.2.2.1) (u64s z.2.2.2)∧NW z.1.2.2∧NW z.2.2.2∧z.2.2.2.length≤z.1.2.2.length∧z.2.2.2.length<40∧z.1.2.2.length<100000000∧wv z.1.2.2*wv z.2.2.2=wv A*wv C∧(Value.slice z.1.1 z.1.2.2.length z.1.2.1=.slice a1 A.length c1∨Value.slice z.1.1 z.1.2.2.length z.1.2.1=.slice a2 C.length c2)) ?_ ?_
 ·by_cases hlt:A.length<C.length
  ·rw [zc (by show Value.bool _=_;rw [decide_eq_true zo])];refine zN ?_;refine sh ?_;exact zK ((a2,c2,C),(a1,c1,A)) ⟨rfl,rfl,trivial⟩ ⟨rfl,rfl,rfl,hC,hA,nC,nA,by show A.length≤C.length;omega,by show A.length<40;omega,hb.2,Nat.mul_comm _ _,.inr rfl⟩
  rw [za (by show Value.bool _=_;rw [decide_eq_false zo])];refine zN ?_;exact zK ((a1,c1,A),(a2,c2,C)) ⟨rfl,rfl,trivial⟩ ⟨rfl,rfl,rfl,hA,hC,nA,nC,by show C.length≤A.length;omega,by show C.length<40;omega,hb.1,rfl,.inl rfl⟩
 rintro ⟨⟨a,c,X⟩,⟨a',c',Y⟩⟩ t _ _ _ ⟨rfl,rfl,rfl,hX,hY,nX,nY,hYX,hY40,hXl,hprod,hv⟩;simp only at hX hY nX nY hYX hY40 hXl hprod hv;rw [←hprod];clear hprod h40 hb hA hC nA nC;refine Zf ?_;refine st_I (ik:=.i64) (a:=(X.length:Int)) R5 ?_;refine vv (a:=(X.length:Int)) (b:=1) R6 zo ?_;refine st_I (ik:=.i64) (a:=((X.length:Int)+1).tdiv 2) ⟨rfl,rfl,rfl,rfl,(by show some (Value.int .i64 (IntKind.wrap .i64 _))=_;rw [xo (by have:=Int.tdiv_nonneg (a:=(X.length:Int)+1) (b:=2) zo zo;have:=Int.tdiv_le_self (a:=(X.length:Int)+1) (b:=2) zo;omega)])⟩ ?_;refine sh ?_;by_cases hY0:Y.length=0
 ·refine sh ?_;refine Zb ?_;refine sh ?_;exact retH _ ⟨rfl,(zi rfl),rfl⟩ ⟨[],⟨rfl,Nat.le_refl _,Ext.refl _ _,.nil (.inl rfl),NW.nil⟩,by rw [List.length_eq_zero_iff.1 hY0];rfl,.inl trivial⟩
 refine sh ?_;rw [za rfl];simp only [yL,xN,zO,xD];refine yo (α:=Bool) (fun z=>[(0,.slice a X.length c),(1,.slice a' Y.length c'),(32,.bool z)]) (fun z h' n' w=>h=h'∧n=n'∧w=[]∧(z=true→wv Y=1)) ?_ ?_
 ·by_cases hY1:Y.length=1
  ·obtain ⟨y,rfl⟩:=List.length_eq_one_iff.1 hY1;rw [show [y].length=1 from rfl] at hY ⊢;refine Ze ?_;refine xi (f:=fun d:Nat=>Value.int .u64 (d:Int)) (l:=[y]) (j:=0) R7 hY ⟨rfl,(by simp)⟩ rfl (fun _=>rfl) R4 fun _=>?_;by_cases hy:y=1
   ·refine sh ?_;exact zK true ⟨rfl,rfl,rfl,trivial⟩ ⟨rfl,rfl,rfl,fun _=>by rw [px,hy]⟩
   refine sh ?_;exact zK false ⟨rfl,rfl,rfl,trivial⟩ ⟨rfl,rfl,rfl,fun h=>by cases h⟩
  refine zN ?_;refine sh ?_;exact zK false ⟨rfl,rfl,rfl,trivial⟩ ⟨rfl,rfl,rfl,fun h=>by cases h⟩
 rintro z t _ _ _ ⟨rfl,rfl,rfl,hz⟩;cases z with
 |true=>
  refine Zb ?_;refine sh ?_;exact retH _ ⟨rfl,(zi rfl),rfl⟩ ⟨X,⟨rfl,Nat.le_refl _,Ext.refl _ _,hX,nX⟩,by rw [hz rfl,Nat.mul_one],.inr hv⟩
 |false=>
 rw [za rfl];clear hz;refine zN ?_;refine sh ?_;refine Zb ?_;repeat refine zR ?_
 refine wE (len:=X.length+Y.length) (cap:=X.length+Y.length) R9 zo ?_;rw [show zr (Value.int .u64 0)=[Value.int .u64 0] from rfl,rU];generalize hh:upd h (3*n+2) _=h1;have hr1:∃e,h1 (3*n+2)=some (.row (u64s (List.replicate X.length 0++List.replicate Y.length 0)) e):=⟨_,by rw [←hh,ze,List.replicate_append_replicate]⟩;obtain ⟨e,hr1⟩:=hr1;have hx1:Ext n h h1:=by rw [←hh];exact Ext.upd zo
 clear hh;refine sh ?_;refine sh ?_;refine zQ (α:=Nat×List Nat) (fun z=>[(0,.slice a X.length c),(6,.slice (some ⟨3*n+2,0,none⟩) (X.length+Y.length) (X.length+Y.length)),(53,.slice a' Y.length c'),(54,.int .i64 (Y.length:Int)),(55,.int .i64 (z.1:Int))])
  (fun z h' n' w=>n'=n+1∧w=[]∧Ext n h h'∧h' (3*n+2)=some (.row (u64s (z.2++List.replicate (Y.length-z.1) 0)) e)∧z.2.length=X.length+z.1∧WdD z.2∧z.1≤Y.length∧wv z.2=wv X*wv (Y.take z.1)) (fun z=>Y.length-z.1)
  (0,List.replicate X.length 0) ⟨rfl,rfl,rfl,rfl,rfl,trivial⟩ ⟨rfl,rfl,hx1,hr1,by simp,WdD.zeros _,Nat.zero_le _,by simp [wv,dv,qS]⟩ (by show Y.length-0<LL;unfold LL;omega) ?_
 clear hr1 hx1;rintro ⟨i,D⟩ t h1 _ _ ⟨rfl,rfl,hx1,hr1,hDl,hDd,hi,hV⟩;simp only at hr1 hDl hDd hi hV;refine zN ?_;by_cases hiY:i=Y.length
 ·subst hiY;rw [Nat.sub_self,List.replicate_zero,List.append_nil] at hr1;rw [List.take_length] at hV;refine sh ?_;refine Za ?_;repeat refine zR ?_
  have htr:=sE (k+1) (h:=h1) (n:=n+1) (a:=some ⟨3*n+2,0,none⟩) (len:=X.length+Y.length) (cap:=X.length+Y.length) (l:=D) zo (fun _ e=>by injection e with e;rw [←e]) (gI zo hr1 hDl);refine zu _ R5 htr ?_;rintro _ _ _ _ ⟨rfl,rfl,rfl,rfl,hs⟩;refine sh ?_;obtain ⟨t1,t2⟩:=pi hDd;exact retH _ ⟨rfl,(zi rfl),rfl⟩ ⟨_,⟨rfl,Nat.le_succ n,hx1,hs,t1⟩,by rw [t2,hV],.inl (by show 3*n≤3*n+2;omega)⟩
 obtain ⟨w,hw⟩:∃x,Y[i]?=some x:=⟨Y[i]'zo,List.getElem?_eq_getElem zo⟩;have hwl:=nY.1.get hw;obtain ⟨P,Z,hPZ,hP,hZ⟩:∃P Z,D=P++Z∧P.length=i∧Z.length=X.length:=⟨D.take i,D.drop i,(List.take_append_drop i D).symm,by rw [List.length_take];omega,by rw [List.length_drop];omega⟩;subst hPZ hP;rw [List.append_assoc] at hr1;have hX1:=hX.ext hx1 (Nat.le_succ n);refine sh ?_;refine Zb ?_;repeat refine zR ?_
 refine xi (f:=fun d:Nat=>Value.int .u64 (d:Int)) (j:=P.length) R7 (hY.ext hx1 (Nat.le_succ n)) R2 hw (fun _=>rfl) R4 fun _=>?_;refine sh ?_;repeat refine zR ?_
 refine sU P.length (P.length+X.length) R9 rfl rfl zo ?_;rw [show 0+P.length*1=P.length from zo,show P.length+X.length-P.length=Z.length from zo];repeat refine zR ?_
 refine zu _ R5 (mD k (n:=n+1) (b:=3*n+2) zo hr1 zo (fun d hd=>hDd d (by simp [hd])) hX1 nX.1 (hX.below.off zo) hZ zo hwl) ?_;rintro _ h2 _ w2 ⟨L,cc,rfl,hcc,⟨hw2,rfl,hx2,hr2⟩,hLd,hLl,hLv⟩;try simp only [eH]
 rw [yc (w:=[]) fun y hy=>by rw [hw2 y hy];show 3*n≤3*n+2;omega];obtain ⟨m,hm⟩:∃m,Y.length-P.length=m+1:=⟨Y.length-P.length-1,zo⟩;rw [hm,←List.append_assoc] at hr2;have hPL:(P++L).length=P.length+X.length:=by rw [List.length_append,hLl,hZ]
 refine pH (j:=P.length+X.length) (v:=.int .u64 (cc:Int)) R8 rfl ⟨zo,by rw [yg,List.length_append,hPL,List.length_replicate];omega⟩ hr2 (by show 3*n≤3*n+2;omega) (fun _=>rfl) R3 (fun _=>rfl) rfl fun _=>?_;rw [uX,←hPL,pj];refine sh ?_;refine sh ?_;refine goOn (P.length+1,P++(L++[cc])) (by show Y.length-(P.length+1)<Y.length-P.length;omega) ⟨rfl,rfl,rfl,rfl,rfl,trivial⟩ ⟨rfl,rfl,fun b hb=>(zj zo).trans ((hx2 b zo zo).trans (hx1 b hb)),?_,?_,?_,by show P.length+1≤_;omega,?_⟩
 ·refine (ze _ _ _).trans ?_;simp only;rw [show Y.length-(P.length+1)=m from zo,List.append_assoc P L]
 ·simp only;rw [List.length_append,List.length_append,hLl,hZ,List.length_singleton];omega
 ·exact WdD.append (fun d hd=>hDd d (by simp [hd])) (WdD.snoc hLd hcc)
 simp only;rw [dJ hLl hLv,hV,xa hw,Nat.mul_add]
end
theorem sV (k:Nat)(h:HF)(n:Nat)(neg:Bool)(a:Option Addr)(l c:Nat):CF (cal (k+1)) 154 [.bool neg,.slice a l c] h n fun v h' n' w=>v=.agg #[.bool (neg&&decide (0<l)),.slice a l c]∧n'=n+1∧w=[]∧Ext n h h':=by
 refine zk (fn:=Tryz.f154) R4 ?_;refine zN ?_;refine zT R5 ?_;refine zN ?_;cases neg
 ·repeat refine zR ?_
  refine zv [.bool false,.slice a l c] R7 rfl (ze _ _ _) rfl (by show 3*n≤_;omega) ?_;refine zN ?_;exact yP R5 (ze _ _ _) rfl ⟨rfl,rfl,rfl,by rw [yH];exact Ext.upd zo⟩
 by_cases hl:0<l
 ·repeat refine zR ?_
  refine zv [.bool true,.slice a l c] R7 rfl (ze _ _ _) rfl (by show 3*n≤_;omega) ?_;refine zN ?_;exact yP R5 (ze _ _ _) rfl ⟨by rw [decide_eq_true hl];rfl,rfl,rfl,by rw [yH];exact Ext.upd zo⟩
 repeat refine zR ?_
 refine zv [.bool false,.slice a l c] R7 rfl (ze _ _ _) rfl (by show 3*n≤_;omega) ?_;refine zN ?_;exact yP R5 (ze _ _ _) rfl ⟨by rw [decide_eq_false hl];rfl,rfl,rfl,by rw [yH];exact Ext.upd zo⟩
theorem NW.zero_iff {L:List Nat}(h:NW L):wv L=0↔L=[]:=⟨fun e=>h.inj NW.nil (by rw [e];rfl),fun e=>by rw [e];rfl⟩
section
variable {l:Nat}{off:Nat}{e:TypeId}{z:Value}{a:Option Addr}
def Gw (n:Nat)(h:HF)(P:Value→HF→Nat→Prop):Value→HF→Nat→List Nat→Prop:=fun v h' n' w=>w=[]∧n≤n'∧Ext n h h'∧P v h' n'
def CX (C:CalF)(f:FuncId)(args:List Value)(h:HF)(n:Nat)(P:Value→HF→Nat→Prop):Prop:=CF C f args h n (Gw n h P)
theorem VF.cx {C:CalF}{h:HF}{n:Nat}{P:Value→Prop}(c:VF C f args h n P):CX C f args h n fun v _ _=>P v:=by
 refine yh c ?_;rintro v _ _ _ ⟨rfl,rfl,rfl,hp⟩;exact ⟨rfl,Nat.le_refl _,Ext.refl _ _,hp⟩
theorem CX.mono {C:CalF}{h:HF}{n:Nat}{P P':Value→HF→Nat→Prop}(c:CX C f args h n P)(hp:∀v h' n',P v h' n'→P' v h' n'):CX C f args h n P':=by
 refine yh c ?_;rintro v _ _ _ ⟨hw,hn,hx,hq⟩;exact ⟨hw,hn,hx,hp _ _ _ hq⟩
def Only (b:Nat)(h h':HF):Prop:=∀c,c≠b→h' c=h c
theorem Ext.st {n:Nat}{h h1 h2:HF}(x:Ext n h h1)(o:Only b h1 h2)(hb:3*n≤b):Ext n h h2:=fun c hc=>(o c zo).trans (x c hc)
section
variable {X:CtxF}{ops r:List Oper}{t:TF}{h:HF}{n:Nat}{w:List Nat}{Q:SV→Prop}{o:Oper}{d:Tmp}
theorem tF (cs:List Value)(hw:zh ops t o=true∧o.dst=some d∧zm X.nt (some d)=true∧cls o.op=2∧mkE X.E o.op (evF t)=some ⟨cs,e,false,none⟩)
  (k:∀h',h' (3*n+2)=some (.row cs e)→Ext n h h'→EO X ops r ⟨upd t d (.pointer (some ⟨3*n+2,0,none⟩)),h',n+1,w⟩ Q):EO X ops (o::r) ⟨t,h,n,w⟩ Q:=by obtain ⟨hw,hd,hn,hc,hm⟩:=hw;exact xy ⟨hw,hd,hn,hc,hm⟩ (k _ (ze _ _ _) (Ext.upd zo))
theorem we (cs:List Value)(hw:zh ops t o=true∧o.dst=some d∧zm X.nt (some d)=true∧o.op=.alloc e∧X.E.inf e=some (sz,bt,z)∧zr z=cs)
  (k:∀h',h' (3*n+2)=some (.row cs e)→Ext n h h'→EO X ops r ⟨upd t d (.pointer (some ⟨3*n+2,0,none⟩)),h',n+1,w⟩ Q):EO X ops (o::r) ⟨t,h,n,w⟩ Q:=by
 obtain ⟨hw,hd,hn,ho,hi,hz⟩:=hw;subst hz;exact zT ⟨hw,hd,hn,ho,hi⟩ (k _ (ze _ _ _) (Ext.upd zo))
theorem pz {a x:Operand}(c':List Value)(hw:zh ops t o=true∧o.dst=none∧o.op=.store ty a x∧X.E.inf ty=some (sz,bt,z)∧evF t a=.pointer (some ⟨b,off,none⟩))(hb:h b=some (.row c e))(hx:zr (evF t x)=cs∧cs.length=sz∧ones cs=true)(hl:off+sz≤c.length)(hsp:zn c off cs=c')(hnew:3*X.n0≤b)
  (k:∀h',h' b=some (.row c' e)→Only b h h'→EO X ops r ⟨t,h',n,w⟩ Q):EO X ops (o::r) ⟨t,h,n,w⟩ Q:=by
 obtain ⟨hw,hd,ho,hi,ha⟩:=hw;obtain ⟨hx,hs,h1⟩:=hx;subst hsp;exact yB ⟨hw,hd,ho,hi,ha,hx,hs,h1⟩ hb hl hnew (k _ (ze _ _ _) fun c hc=>zj hc)
theorem jO {P:Value→HF→Nat→Prop}(hw:zh ops t o=true∧o.dst=some d∧zm X.nt (some d)=true∧cls o.op=3∧effF X.E o.op (evF t) h n=some (.enter f args))(hcall:CX X.C f args h n P)
  (k:∀v h' n',P v h' n'→n≤n'→Ext n h h'→EO X ops r ⟨upd t d v,h',n',w⟩ Q):EO X ops (o::r) ⟨t,h,n,w⟩ Q:=by
 obtain ⟨hw,hd,hn,hc,he⟩:=hw;refine zu _ ⟨hw,hd,hn,hc,he⟩ hcall ?_;rintro v h' n' _ ⟨rfl,h2,h3,h4⟩;exact k v h' n' h4 h2 h3
end
section
variable {X:CtxF}{ops r:List Oper}{ms:List Nat}{i m:Nat}{t:TF}{h:HF}{n:Nat}{w:List Nat}{al ld:List (Nat×Nat)}{ef:List (Nat×HF×List Nat)}{Q:SV→Prop}{o:Oper}{d:Tmp}
theorem zj2 (cs:List Value)(hw:zh ops t o=true)(hd:o.dst=some d)(hn:zm X.nt (some d)=true)(hc:cls o.op=2)(hm:mkE X.E o.op (evF t)=some ⟨cs,e,false,none⟩)
  (k:∀h',h' (3*n+2)=some (.row cs e)→Ext n h h'→ED X ops r ms (i+1) ⟨⟨upd t d (.pointer (some ⟨3*n+2,0,none⟩)),h',n+1,w⟩,(i,3*n+2)::al,ld,ef⟩ Q):ED X ops (o::r) (m::ms) i ⟨⟨t,h,n,w⟩,al,ld,ef⟩ Q:=
 zlj hw hd hn hc hm (k _ (ze _ _ _) (Ext.upd zo))
theorem zj0 {a x:Operand}(c':List Value)(hw:zh ops t o=true)(hd:o.dst=none)(ho:o.op=.store ty a x)(hi:X.E.inf ty=some (sz,bt,z))(ha:evF t a=.pointer (some ⟨b,off,none⟩))(hb:h b=some (.row c e))(hx:zr (evF t x)=cs)(hs:cs.length=sz)(h1:ones cs=true)(hl:off+sz≤c.length)(hsp:zn c off cs=c')(hnew:3*X.n0≤b)(g1:yN m ef=true)(g2:xI m al=true)(g3:zV m [b] ld=true)
  (k:∀h',h' b=some (.row c' e)→Only b h h'→ED X ops r ms (i+1) ⟨⟨t,h',n,w⟩,al,ld,(i,h,[b])::ef⟩ Q):ED X ops (o::r) (m::ms) i ⟨⟨t,h,n,w⟩,al,ld,ef⟩ Q:=by
 subst hsp;exact yT ⟨hw,hd,ho,hi,ha,hx,hs⟩ h1 hb hl hnew ⟨g1,g2,g3⟩ (k _ (ze _ _ _) fun c hc=>zj hc)
theorem zg7 {P:Value→HF→Nat→Prop}(hw:zh ops t o=true)(hd:o.dst=some d)(hn:zm X.nt (some d)=true)(hc:cls o.op=3)(he:effF X.E o.op (evF t) h n=some (.enter f args))(hcall:CX X.C f args h n P)(h1:yN m ef=true)(h2:xI m al=true)
  (k:∀v h' n',P v h' n'→n≤n'→Ext n h h'→ED X ops r ms (i+1) ⟨⟨upd t d v,h',n',w⟩,al,ld,(i,h,[])::ef⟩ Q):ED X ops (o::r) (m::ms) i ⟨⟨t,h,n,w⟩,al,ld,ef⟩ Q:=by
 refine yK _ ⟨hw,hd,hn,hc,he,h1,h2⟩ hcall ?_;rintro v h' n' _ ⟨rfl,h2,h3,h4⟩;exact ⟨tX,h2,k v h' n' h4 h2 h3⟩
end
theorem qJ {s:SV}:resF env s []=some []:=rfl
theorem yM {s:SV}{a:Tmp}{r:List ResultVar}(h:s.t a=v)(hr:resF env s r=some vs):resF env s (.tmp a::r)=some (v::vs):=by
 simp only [resF,hr,h]
theorem xV {s:SV}{a:Tmp}{ad:Addr}{r:List ResultVar}(ha:s.t a=.pointer (some ad))(hl:yp env ty s.h ad=some v)(hr:resF env s r=some vs):resF env s (.cell a ty::r)=some (v::vs):=by
 simp only [resF,ha,hl,hr]
theorem retX {P:Value→HF→Nat→Prop}{e:Ex}{t:TF}{h:HF}{n:Nat}(vs:List Value)(he:sc e=true∧resF env ⟨t,h,n,[]⟩ fn.results.toList=some vs∧ur vs=false)(hn:n0≤n)(hx:Ext n0 h0 h)(hp:P (qb vs) h n):RetH fn (Gw n0 h0 P) e ⟨t,h,n,[]⟩:=by obtain ⟨he,hr,hf⟩:=he;exact retH vs ⟨he,hr,hf⟩ ⟨rfl,hn,hx,hp⟩
def nu:Value→Bool
 | .int .u64 _=>false
 | .int .u32 _=>false
 |_=>true
theorem Sl.onlyG {h:HF}{n:Nat}{cl:List Value}(s:Sl h n 1 v cl)(hcl:∀x∈cl,nu x=false)(hp:h b=some (.row cs e))(hu:cs.all nu=true)(ho:Only b h h'):Sl h' n 1 v cl:=by
 cases s with
 |nil ha=>exact .nil ha
 | @at_ b2 off len cap x cs2 c2 hb hx hc hcap hl he=>
  by_cases h0:len=0
  ·subst h0;have:cl=[]:=by rw [←he];simp
   subst this;exact .nil (.inr ⟨_,_,_,rfl,hb⟩)
  have hne:b2≠b:=by
   intro e2;subst e2;rw [hp] at hx;cases hx;injection hc with hc
   subst hc;have hL:cl.length=len:=by rw [←he,List.length_take,List.length_drop];omega
   obtain ⟨d,L',rfl⟩:∃d L',cl=d::L':=by
    cases cl with
    |nil=>exact absurd hL.symm h0
    |cons d L'=>exact ⟨d,L',rfl⟩
   have hm:d∈cs:=by
    have:d∈(cs.drop off).take (len*1):=by rw [he];exact List.mem_cons_self
    exact List.mem_of_mem_drop (List.mem_of_mem_take this)
   have:=List.all_eq_true.1 hu _ hm;rw [hcl d List.mem_cons_self] at this;cases this
  exact .at_ hb (by rw [ho _ hne];exact hx) hc hcap hl he
theorem Sl.only {h:HF}{n:Nat}{L:List Nat}(s:Sl h n 1 v (u64s L))(hp:h b=some (.row cs e))(hu:cs.all nu=true)(ho:Only b h h'):Sl h' n 1 v (u64s L):=
 s.onlyG (fun x hx=>by obtain ⟨d,_,rfl⟩:=List.mem_map.1 hx;rfl) hp hu ho
theorem Sl.only32 {h:HF}{n:Nat}{L:List Nat}(s:Sl h n 1 v (u32s L))(hp:h b=some (.row cs e))(hu:cs.all nu=true)(ho:Only b h h'):Sl h' n 1 v (u32s L):=
 s.onlyG (fun x hx=>by obtain ⟨d,_,rfl⟩:=List.mem_map.1 hx;rfl) hp hu ho
def WW (h:HF)(n:Nat)(a:Option Addr)(l c m:Nat):Prop:=∃L,Sl h n 1 (.slice a l c) (u64s L)∧NW L∧wv L=m
theorem WW.ext {h:HF}{n:Nat}{c m:Nat}(i:WW h n a l c m)(e:Ext n h h')(hn:n≤n'):WW h' n' a l c m:=by
 obtain ⟨L,h1,h2,h3⟩:=i;exact ⟨L,h1.ext e hn,h2,h3⟩
theorem WW.only {h:HF}{n bb:Nat}{c m:Nat}(i:WW h n a l c m)(hp:h bb=some (.row cs e))(hu:cs.all nu=true)(ho:Only bb h h'):WW h' n a l c m:=by
 obtain ⟨L,h1,h2,h3⟩:=i;exact ⟨L,h1.only hp hu ho,h2,h3⟩
theorem WW.zero {h:HF}{n:Nat}{c m:Nat}(i:WW h n a l c m):l=0↔m=0:=by
 obtain ⟨L,h1,h2,h3⟩:=i;have e:=h1.lenW;rw [←h3,h2.zero_iff,←List.length_eq_zero_iff,e]
theorem WW.as {h:HF}{n:Nat}{c m:Nat}(i:WW h n a l c m)(e:m=m'):WW h n a l c m':=e▸i
theorem WW.nil (h:HF)(n:Nat):WW h n none 0 0 0:=⟨[],.nil (.inl rfl),NW.nil,rfl⟩
def IW (h:HF)(n:Nat)(b:Bool)(a:Option Addr)(l c:Nat)(x:Int):Prop:=b=decide (x<0)∧WW h n a l c x.natAbs
theorem IW.ext {h:HF}{n:Nat}{b:Bool}{c:Nat}{x:Int}(i:IW h n b a l c x)(e:Ext n h h')(hn:n≤n'):IW h' n' b a l c x:=⟨i.1,i.2.ext e hn⟩
theorem IW.only {h:HF}{n bb:Nat}{b:Bool}{c:Nat}{x:Int}(i:IW h n b a l c x)(hp:h bb=some (.row cs e))(hu:cs.all nu=true)(ho:Only bb h h'):IW h' n b a l c x:=⟨i.1,i.2.only hp hu ho⟩
theorem IW.as {h:HF}{n:Nat}{b:Bool}{c:Nat}{x y:Int}(i:IW h n b a l c x)(e:x=y):IW h n b a l c y:=e▸i
theorem IW.lt {h:HF}{n:Nat}{c:Nat}{x:Int}(i:IW h n true a l c x):x<0:=of_decide_eq_true i.1.symm
theorem IW.ge {h:HF}{n:Nat}{c:Nat}{x:Int}(i:IW h n false a l c x):0≤x:=Int.not_lt.1 (of_decide_eq_false i.1.symm)
def IV (x:Int)(v:Value)(h:HF)(n:Nat):Prop:=∃b a l c,v=.agg #[.bool b,.slice a l c]∧IW h n b a l c x
def WV (m:Nat)(v:Value)(h:HF)(n:Nat):Prop:=∃a l c,v=.slice a l c∧WW h n a l c m
def BV (p:Prop)(v:Value)(_:HF)(_:Nat):Prop:=∃b:Bool,v=.bool b∧(b=true↔p)
def SV3 (x:Int)(v:Value)(_:HF)(_:Nat):Prop:=∃s:Int,v=.int .i64 s∧(s= -1∧x<0∨s=0∧x=0∨s=1∧0<x)
theorem IW.zero (h:HF)(n:Nat):IW h n false none 0 0 0:=⟨rfl,WW.nil h n⟩
def GG (h:HF)(n:Nat):Prop:=GK.G h∧20≤n
theorem GG.ext {h:HF}{n:Nat}(g:GG h n)(e:Ext n h h')(hn:n≤n'):GG h' n':=⟨sw g.1 e g.2,Nat.le_trans g.2 hn⟩
def BW:Nat:=18446744073709551616^1
theorem uK {m e:Nat}(h:m<2^e)(he:e≤64):m<BW:=by
 have h1:e≤64*1:=he;generalize hk:1=k at h1;have h2:m<(2^64)^k:=by
  rw [←Nat.pow_mul];exact Nat.lt_of_lt_of_le h (Nat.pow_le_pow_right zd h1)
 subst hk;exact h2
theorem NW.len39 {L:List Nat}(h:NW L)(hb:wv L<BW):L.length≤1:=h.len_le hb
def sgZ (b:Bool)(m:Nat):Int:=if b then -(m:Int) else m
theorem au (b:Bool)(m:Nat):(sgZ b m).natAbs=m:=by unfold sgZ;split<;>omega
theorem ap (b:Bool)(m:Nat):decide (sgZ b m<0)=(b&&decide (0<m)):=by
 unfold sgZ;cases b
 ·rw [Bool.false_and,decide_eq_false_iff_not];simp
 rw [Bool.true_and];by_cases h:0<m
 ·rw [decide_eq_true h,decide_eq_true];simp;omega
 rw [decide_eq_false h,decide_eq_false];simp;omega
theorem xO (k:Nat){h:HF}{n:Nat}{c m:Nat}(i:WW h n a l c m)(neg:Bool):CX (cal (k+1)) 154 [.bool neg,.slice a l c] h n (IV (sgZ neg m)):=by
 refine yh (sV k h n neg a l c) ?_;rintro _ h' n' _ ⟨rfl,rfl,rfl,hx⟩;refine ⟨rfl,Nat.le_succ _,hx,_,_,_,_,rfl,?_,?_⟩
 ·rw [ap];have:=i.zero;congr 1;by_cases h0:0<l
  ·rw [decide_eq_true h0,decide_eq_true zo]
  rw [decide_eq_false h0,decide_eq_false zo]
 rw [au];exact i.ext hx zs
theorem ResW.ww {n:Nat}{h:HF}{w:List Nat}{L:List Nat}(r:ResW n h v h' n' w L){m:Nat}(e:wv L=m):w=[]∧n≤n'∧Ext n h h'∧WV m v h' n':=by
 obtain ⟨h1,h2,h3,h4,h5⟩:=r;obtain ⟨a,l,c,rfl,_⟩:=h4.len;exact ⟨h1,h2,h3,_,_,_,rfl,L,h4,h5,e⟩
section
variable (k:Nat){h:HF}{n:Nat}{a1 a2:Option Addr}{l1 c1 l2 c2 x y:Nat}
theorem zal (i:WW h n a1 l1 c1 x)(j:WW h n a2 l2 c2 y)(hb:x<BW∧y<BW):CX (cal (k+3)) 158 [.slice a1 l1 c1,.slice a2 l2 c2] h n (WV (x*y)):=by
 obtain ⟨A,hA,nA,rfl⟩:=i;obtain ⟨C,hC,nC,rfl⟩:=j;have:=nA.len39 hb.1;have:=nC.len39 hb.2;refine yh (iR k hA hC nA nC zo zo) ?_;rintro v h' n' w ⟨L,r,e,_⟩;exact r.ww e
theorem zjj (i:WW h n a1 l1 c1 x)(j:WW h n a2 l2 c2 y)(hb:x<BW∧y<BW):CX (cal (k+3)) 156 [.slice a1 l1 c1,.slice a2 l2 c2] h n (SV3 ((x:Int)-y)):=by
 obtain ⟨A,hA,nA,rfl⟩:=i;obtain ⟨C,hC,nC,rfl⟩:=j;have:=nA.len39 hb.1;refine (sk k hA hC nA nC zo).cx.mono ?_;rintro _ _ _ rfl;refine ⟨_,rfl,?_⟩;rcases Nat.lt_trichotomy (wv A) (wv C) with h|h|h
 ·exact .inl ⟨vn h,zo⟩
 ·exact .inr (.inl ⟨by rw [h];exact oV _,zo⟩)
 exact .inr (.inr ⟨uA h,zo⟩)
theorem zgp (h:HF)(n:Nat){w:Nat}(hw:w<18446744073709551616):CX (cal (k+1)) 184 [.int .u64 (w:Int)] h n (WV w):=by
 refine yh (ow k h n hw) ?_;rintro v h' n' w ⟨L,r,e,_⟩;exact r.ww e
end
end
section
variable {bt lo n' off sz u:Nat}{h' h0:HF}{args c cs vs:List Value}{v x1 x2 x3 x4 x5 z:Value}{E:Env}{ty ty':TypeId}{y:Operand}{f:FuncId}{fn:Func}{α:Type}
theorem bvs {b:Bool}{p:Prop}(h:b=true↔p):b=false∧¬p∨b=true∧p:=by
 cases b
 ·exact .inl ⟨rfl,fun hp=>by cases h.2 hp⟩
 exact .inr ⟨rfl,h.1 rfl⟩
theorem zhh {p:Prop}(h:p:=by first|exact ⟨hx,hy⟩|exact ⟨hy,hx⟩):p:=h
theorem zno {p:Prop}(h:¬p):∃b:Bool,Value.bool false=.bool b∧(b=true↔p):=⟨_,rfl,fun hq=>(by cases hq),fun hq=>absurd hq h⟩
theorem zye {p:Prop}(h:p):∃b:Bool,Value.bool true=.bool b∧(b=true↔p):=⟨_,rfl,fun _=>h,fun _=>rfl⟩
def Sto (b:Nat)(h h':HF):Prop:=Only b h h'∧∃cs e,h b=some (.row cs e)∧cs.all nu=true
def ExtB (n:Nat)(B:List Nat)(h h':HF):Prop:=∀b,b<3*n→b∉B→h' b=h b
theorem ExtB.refl (n:Nat)(B:List Nat)(h:HF):ExtB n B h h:=fun _ _ _=>rfl
theorem ExtB.ext {n:Nat}{B:List Nat}{a b c:HF}(x:ExtB n B a b)(y:Ext n' b c)(hn:n≤n'):ExtB n B a c:=fun k hk hb=>(y k zo).trans (x k hk hb)
theorem ExtB.st {n m:Nat}{B:List Nat}{a b c:HF}(x:ExtB n B a b)(o:Only m b c)(hm:3*n≤m∨m∈B):ExtB n B a c:=fun k hk hb=>by
 refine (o k fun e=>?_).trans (x k hk hb);subst e;rcases hm with hm|hm
 ·omega
 exact hb hm
theorem ExtB.trans {n m:Nat}{B C:List Nat}{a b c:HF}(x:ExtB n B a b)(y:ExtB m C b c)(hm:n≤m)(hC:∀k∈C,k∈B∨3*n≤k):ExtB n B a c:=fun k hk hb=>(y k zo fun hc=>by rcases hC k hc with h|h;exact hb h;omega).trans (x k hk hb)
theorem ExtB.to {n m:Nat}{B:List Nat}{a b:HF}(x:ExtB n B a b)(hm:m≤n)(hB:∀k∈B,3*m≤k):Ext m a b:=fun k hk=>x k zo fun hb=>by have:=hB k hb;omega
structure Exa (n:Nat)(h h':HF):Prop where
 e:Ext n h h'
theorem Exa.zz {n b:Nat}{h:HF}{y:Option BF}(x:Exa n h h')(hb:b<3*n)(e:h b=y):h' b=y:=(x.e b hb).trans e
theorem Ext.zz {n b:Nat}{h:HF}{y:Option BF}(x:Ext n h h')(hb:b<3*n)(e:h b=y):h' b=y:=(x b hb).trans e
theorem Only.zz {b c:Nat}{h:HF}{y:Option BF}(x:Only b h h')(hb:c≠b)(e:h c=y):h' c=y:=(x c hb).trans e
theorem Sto.zz {b c:Nat}{h:HF}{y:Option BF}(x:Sto b h h')(hb:c≠b)(e:h c=y):h' c=y:=(x.1 c hb).trans e
theorem ExtB.zz {n b:Nat}{B:List Nat}{h:HF}{y:Option BF}(x:ExtB n B h h')(hb:b<3*n)(hB:b∉B)(e:h b=y):h' b=y:=(x b hb hB).trans e
def Nur (o:Option BF):Prop:=∃x,o=some x∧((∃cs e,x=.row cs e∧cs.all nu=true)∨x.cells=none)
theorem Nur.row {e:TypeId}{o:Option BF}(h:o=some (.row cs e))(hu:cs.all nu=true):Nur o:=⟨_,h,.inl ⟨_,_,rfl,hu⟩⟩
def Lpo (b:Nat)(h h':HF):Prop:=Only b h h'∧∃x,h b=some x∧x.cells=none
theorem Lpo.zz {b c:Nat}{h:HF}{y:Option BF}(x:Lpo b h h')(hb:c≠b)(e:h c=y):h' c=y:=(x.1 c hb).trans e
def Tr (n:Nat)(h:HF)(n':Nat)(h':HF):Prop:=n≤n'∧∀c,c<3*n→h' c=h c∨Nur (h c)
def Tx (n:Nat)(h:HF)(n':Nat)(h':HF):Prop:=n≤n'∧Ext n h h'
def Ty (n:Nat)(B:List Nat)(h:HF)(n':Nat)(h':HF):Prop:=n≤n'∧ExtB n B h h'
section
variable {n n1 n2 b:Nat}{B C:List Nat}{h h1 h2:HF}
theorem Tr.refl (n:Nat)(h:HF):Tr n h n h:=⟨Nat.le_refl _,fun _ _=>.inl rfl⟩
theorem Tr.e (x:Ext n1 h1 h2)(hn:n1≤n2)(t:Tr n h n1 h1):Tr n h n2 h2:=⟨Nat.le_trans t.1 hn,fun c hc=>by rw [x c (by have:=t.1;omega)];exact t.2 c hc⟩
theorem Tr.s (x:Sto b h1 h2)(t:Tr n h n1 h1):Tr n h n1 h2:=by
 refine ⟨t.1,fun c hc=>?_⟩;by_cases e:c=b
 ·subst e;obtain ⟨cs,e,hp,hu⟩:=x.2;rcases t.2 c hc with h3|h3
  ·rw [h3] at hp;exact .inr (.row hp hu)
  exact .inr h3
 rw [x.1 c e];exact t.2 c hc
theorem Tr.l (x:Lpo b h1 h2)(t:Tr n h n1 h1):Tr n h n1 h2:=by
 refine ⟨t.1,fun c hc=>?_⟩;by_cases e:c=b
 ·subst e;obtain ⟨y,hp,hu⟩:=x.2;rcases t.2 c hc with h3|h3
  ·rw [h3] at hp;exact .inr ⟨y,hp,.inr hu⟩
  exact .inr h3
 rw [x.1 c e];exact t.2 c hc
theorem Tr.trans {n1 n2:Nat}{h1 h2:HF}(a:Tr n h n1 h1)(b:Tr n1 h1 n2 h2):Tr n h n2 h2:=by
 refine ⟨Nat.le_trans a.1 b.1,fun c hc=>?_⟩;rcases b.2 c (by have:=a.1;omega) with e|e
 ·rw [e];exact a.2 c hc
 rcases a.2 c hc with e2|e2
 ·rw [e2] at e;exact .inr e
 exact .inr e2
theorem Tx.lp (x:Lpo b h1 h2)(hb:3*n≤b)(t:Tx n h n1 h1):Tx n h n1 h2:=⟨t.1,t.2.st x.1 hb⟩
theorem Ty.lp (x:Lpo b h1 h2)(hb:3*n≤b∨b∈B)(t:Ty n B h n1 h1):Ty n B h n1 h2:=⟨t.1,t.2.st x.1 hb⟩
theorem Tx.refl (n:Nat)(h:HF):Tx n h n h:=⟨Nat.le_refl _,Ext.refl _ _⟩
theorem Tx.e (x:Ext n1 h1 h2)(hn:n1≤n2)(t:Tx n h n1 h1):Tx n h n2 h2:=⟨Nat.le_trans t.1 hn,t.2.trans x t.1⟩
theorem Tx.a (x:Exa lo h1 h2)(hl:n≤lo)(hn:n≤n2)(t:Tx n h n1 h1):Tx n h n2 h2:=⟨hn,t.2.trans x.e hl⟩
theorem Tx.o (x:Only b h1 h2)(hb:3*n≤b)(t:Tx n h n1 h1):Tx n h n1 h2:=⟨t.1,t.2.st x hb⟩
theorem Tx.s (x:Sto b h1 h2)(hb:3*n≤b)(t:Tx n h n1 h1):Tx n h n1 h2:=⟨t.1,t.2.st x.1 hb⟩
theorem Tx.l (x:ExtB n1 B h1 h2)(hn:n1≤n2)(hB:∀k∈B,3*n≤k)(t:Tx n h n1 h1):Tx n h n2 h2:=⟨Nat.le_trans t.1 hn,t.2.trans (x.to t.1 hB) (Nat.le_refl _)⟩
theorem Ty.refl (n:Nat)(B:List Nat)(h:HF):Ty n B h n h:=⟨Nat.le_refl _,ExtB.refl _ _ _⟩
theorem Ty.e (x:Ext n1 h1 h2)(hn:n1≤n2)(t:Ty n B h n1 h1):Ty n B h n2 h2:=⟨Nat.le_trans t.1 hn,t.2.ext x t.1⟩
theorem Ty.a (x:Exa lo h1 h2)(hl:n≤lo)(hn:n≤n2)(t:Ty n B h n1 h1):Ty n B h n2 h2:=⟨hn,t.2.ext x.e hl⟩
theorem Ty.o (x:Only b h1 h2)(hb:3*n≤b∨b∈B)(t:Ty n B h n1 h1):Ty n B h n1 h2:=⟨t.1,t.2.st x hb⟩
theorem Ty.s (x:Sto b h1 h2)(hb:3*n≤b∨b∈B)(t:Ty n B h n1 h1):Ty n B h n1 h2:=⟨t.1,t.2.st x.1 hb⟩
theorem Ty.l (x:ExtB n1 C h1 h2)(hn:n1≤n2)(hC:∀k∈C,k∈B∨3*n≤k)(t:Ty n B h n1 h1):Ty n B h n2 h2:=⟨Nat.le_trans t.1 hn,t.2.trans x t.1 hC⟩
end
theorem Sl.trG {h:HF}{n:Nat}{cl:List Value}(s:Sl h n 1 v cl)(hcl:∀x∈cl,nu x=false)(t:Tr n h n' h'):Sl h' n' 1 v cl:=by
 cases s with
 |nil ha=>exact .nil (tn ha t.1)
 | @at_ b2 off len cap x cs2 c2 hb hx hc hcap hl he=>
  have hb':b2<3*n':=by have:=t.1;omega
  rcases t.2 b2 hb with e|⟨y,hp,⟨cs,e,rfl,hu⟩|hn⟩
  ·exact .at_ hb' (e.trans hx) hc hcap hl he
  ·by_cases h0:len=0
   ·subst h0;have:cl=[]:=by rw [←he];simp
    subst this;exact .nil (.inr ⟨_,_,_,rfl,hb'⟩)
   exfalso;rw [hp] at hx;cases hx;injection hc with hc
   subst hc;have hL:cl.length=len:=by rw [←he,List.length_take,List.length_drop];omega
   obtain ⟨d,L',rfl⟩:∃d L',cl=d::L':=by
    cases cl with
    |nil=>exact absurd hL.symm h0
    |cons d L'=>exact ⟨d,L',rfl⟩
   have hm:d∈cs:=by
    have:d∈(cs.drop off).take (len*1):=by rw [he];exact List.mem_cons_self
    exact List.mem_of_mem_drop (List.mem_of_mem_take this)
   have:=List.all_eq_true.1 hu _ hm;rw [hcl d List.mem_cons_self] at this;cases this
  rw [hx] at hp;cases hp;rw [hc] at hn;cases hn
theorem WW.t {h:HF}{n:Nat}{a:Option Addr}{l c m:Nat}(i:WW h n a l c m)(t:Tr n h n' h'):WW h' n' a l c m:=by
 obtain ⟨L,h1,h2,h3⟩:=i;exact ⟨L,h1.trG (fun x hx=>by obtain ⟨d,_,rfl⟩:=List.mem_map.1 hx;rfl) t,h2,h3⟩
theorem IW.t {h:HF}{n:Nat}{b:Bool}{a:Option Addr}{l c:Nat}{x:Int}(i:IW h n b a l c x)(t:Tr n h n' h'):IW h' n' b a l c x:=⟨i.1,i.2.t t⟩
theorem GG.t {h:HF}{n:Nat}(g:GG h n)(t:Tr n h n' h'):GG h' n':=by
 obtain ⟨⟨g1,g2,g3⟩,g4⟩:=g;have f:∀c x,h c=some x→(∀cs e,x=.row cs e→cs.all nu=false)→c<60→(∀y,x=y→y.cells≠none)→h' c=some x:=by
  intro c x hp hu hc hz;rcases t.2 c zo with e1|⟨y,hq,⟨cs2,e2,rfl,hv⟩|hn⟩
  ·rw [e1,hp]
  ·rw [hp] at hq;injection hq with hq
   rw [hu _ _ hq] at hv;cases hv
  rw [hp] at hq;injection hq with hq
  subst hq;exact absurd hn (hz _ rfl)
 refine ⟨⟨f _ _ g1 ?_ ?_ ?_,f _ _ g2 ?_ ?_ ?_,f _ _ g3 ?_ ?_ ?_⟩,Nat.le_trans g4 t.1⟩<;>first|decide|(intro cs e q;cases q<;>rfl)|(intro y q;subst q;intro hn;cases hn)
theorem GG.x {h:HF}{n:Nat}(g:GG h n)(t:Tx n h n' h'):GG h' n':=g.ext t.2 t.1
theorem IW.x {h:HF}{n:Nat}{b:Bool}{a:Option Addr}{l c:Nat}{x:Int}(i:IW h n b a l c x)(t:Tx n h n' h'):IW h' n' b a l c x:=i.ext t.2 t.1
theorem zt {n:Nat}{h:HF}(t:Tr n h n' h':=by (repeat (first|exact Tr.refl _ _|(apply Tr.e;assumption;(first|assumption|exact Nat.le_refl _|exact Nat.le_succ _|omega))|(apply Tr.s;assumption)|(apply Tr.l;assumption)))):Tr n h n' h':=t
theorem zx {n:Nat}{h:HF}(t:Tx n h n' h':=by (repeat (first|exact Tx.refl _ _|(apply Tx.e;assumption;(first|assumption|exact Nat.le_refl _|exact Nat.le_succ _|omega))|(apply Tx.a;assumption;omega;omega)|(apply Tx.s;assumption;omega)|(apply Tx.o;assumption;omega)|(apply Tx.lp;assumption;omega)|(apply Tx.l;assumption;(first|assumption|exact Nat.le_refl _|exact Nat.le_succ _|omega);(intro b hb;simp only [List.mem_cons,List.not_mem_nil,or_false] at hb<;>omega))))):Tx n h n' h':=t
theorem zy {n:Nat}{B:List Nat}{h:HF}(t:Ty n B h n' h':=by (repeat (first|exact Ty.refl _ _ _|(apply Ty.e;assumption;(first|assumption|exact Nat.le_refl _|exact Nat.le_succ _|omega))|(apply Ty.a;assumption;omega;omega)|(apply Ty.s;assumption;(first|(left;omega)|(right;simp)))|(apply Ty.o;assumption;(first|(left;omega)|(right;simp)))|(apply Ty.lp;assumption;(first|(left;omega)|(right;simp)))|(apply Ty.l;assumption;(first|assumption|exact Nat.le_refl _|exact Nat.le_succ _|omega);(intro b hb;simp only [List.mem_cons,List.not_mem_nil,or_false] at hb ⊢ <;>omega))))):ExtB n B h h':=t.2
theorem zp {b:Nat}{h:HF}{x:Option BF}(t:h b=x:=by (repeat (first|assumption|(apply Ext.zz;assumption;omega)|(apply Sto.zz;assumption;omega)|(apply Only.zz;assumption;omega)|(apply Lpo.zz;assumption;omega)|(apply Exa.zz;assumption;omega)|(apply ExtB.zz;assumption;omega;(simp only [List.mem_cons,List.not_mem_nil,or_false,not_false_eq_true]<;>omega))))):h b=x:=t
theorem ldG {h:HF}{b:Nat}{e:TypeId}{r:List Value}(L:List Value)(ha:GL.isAgg E ty=some true)(hi:E.inf ty=some (sz,bt,z))(hb:h b=some (.row c e))(hc:c.drop off=L++r)(hl:L.length=sz)(h1:0<L.length:=by exact Nat.succ_pos _):yp E ty h ⟨b,off,none⟩=some (.agg L.toArray):=by
 have h2:=congrArg List.length hc;rw [List.length_drop,List.length_append] at h2;refine zB (cs:=L) ⟨ha,hi⟩ hb rfl zo ?_;rw [hc,←hl,List.take_left]
theorem ld1 {h:HF}{b:Nat}{e:TypeId}{r:List Value}(ha:GL.isAgg E ty=some true)(hi:E.inf ty=some (1,bt,z))(hb:h b=some (.row c e))(hc:c.drop off=x1::r):yp E ty h ⟨b,off,none⟩=some (.agg #[x1]):=ldG [x1] ha hi hb hc rfl
theorem ld2 {h:HF}{b:Nat}{e:TypeId}{r:List Value}(ha:GL.isAgg E ty=some true)(hi:E.inf ty=some (2,bt,z))(hb:h b=some (.row c e))(hc:c.drop off=x1::x2::r):yp E ty h ⟨b,off,none⟩=some (.agg #[x1,x2]):=ldG [x1,x2] ha hi hb hc rfl
theorem ld3 {h:HF}{b:Nat}{e:TypeId}{r:List Value}(ha:GL.isAgg E ty=some true)(hi:E.inf ty=some (3,bt,z))(hb:h b=some (.row c e))(hc:c.drop off=x1::x2::x3::r):yp E ty h ⟨b,off,none⟩=some (.agg #[x1,x2,x3]):=ldG [x1,x2,x3] ha hi hb hc rfl
theorem ld4 {h:HF}{b:Nat}{e:TypeId}{r:List Value}(ha:GL.isAgg E ty=some true)(hi:E.inf ty=some (4,bt,z))(hb:h b=some (.row c e))(hc:c.drop off=x1::x2::x3::x4::r):yp E ty h ⟨b,off,none⟩=some (.agg #[x1,x2,x3,x4]):=ldG [x1,x2,x3,x4] ha hi hb hc rfl
theorem ld5 {h:HF}{b:Nat}{e:TypeId}{r:List Value}(ha:GL.isAgg E ty=some true)(hi:E.inf ty=some (5,bt,z))(hb:h b=some (.row c e))(hc:c.drop off=x1::x2::x3::x4::x5::r):yp E ty h ⟨b,off,none⟩=some (.agg #[x1,x2,x3,x4,x5]):=ldG [x1,x2,x3,x4,x5] ha hi hb hc rfl
theorem ld6 {h:HF}{b:Nat}{e:TypeId}{x6:Value}{r:List Value}(ha:GL.isAgg E ty=some true)(hi:E.inf ty=some (6,bt,z))(hb:h b=some (.row c e))(hc:c.drop off=x1::x2::x3::x4::x5::x6::r):yp E ty h ⟨b,off,none⟩=some (.agg #[x1,x2,x3,x4,x5,x6]):=ldG [x1,x2,x3,x4,x5,x6] ha hi hb hc rfl
theorem ld10 {h:HF}{b:Nat}{e:TypeId}{x6 x7 x8 x9 x10:Value}{r:List Value}(ha:GL.isAgg E ty=some true)(hi:E.inf ty=some (10,bt,z))(hb:h b=some (.row c e))(hc:c.drop off=x1::x2::x3::x4::x5::x6::x7::x8::x9::x10::r):yp E ty h ⟨b,off,none⟩=some (.agg #[x1,x2,x3,x4,x5,x6,x7,x8,x9,x10]):=ldG [x1,x2,x3,x4,x5,x6,x7,x8,x9,x10] ha hi hb hc rfl
theorem ld11 {h:HF}{b:Nat}{e:TypeId}{x6 x7 x8 x9 x10 x11:Value}{r:List Value}(ha:GL.isAgg E ty=some true)(hi:E.inf ty=some (11,bt,z))(hb:h b=some (.row c e))(hc:c.drop off=x1::x2::x3::x4::x5::x6::x7::x8::x9::x10::x11::r):yp E ty h ⟨b,off,none⟩=some (.agg #[x1,x2,x3,x4,x5,x6,x7,x8,x9,x10,x11]):=ldG [x1,x2,x3,x4,x5,x6,x7,x8,x9,x10,x11] ha hi hb hc rfl
structure Hd (q:Prop):Prop where
 go:q
def ezO:Op→Bool
 | .move _=>true
 | .assign _=>true
 | .pick _ _ _=>true
 | .nilCheck _=>true
 | .unOp _ _ _=>true
 | .fieldAddr _ _ _=>true
 | .extract _ _=>true
 |_=>false
def bnO:Op→Bool
 | .binOp _ _ _ _ _=>true
 |_=>false
def litB:Value→Bool
 | .bool b=>b|| !b
 |_=>false
def lnO:Op→Option Operand
 | .call c=>(match c.callee,c.args.toList with| .builtin .len,[x]=>some x|_,_=>none)
 |_=>none
section
variable {X:CtxF}{ops r:List Oper}{t:TF}{h:HF}{n:Nat}{w:List Nat}{Q:SV→Prop}{o:Oper}{d:Tmp}
theorem zgE (_:ezO o.op=true)(k:EO X ops (o::r) ⟨t,h,n,w⟩ Q):EO X ops (o::r) ⟨t,h,n,w⟩ Q:=k
theorem zgB (_:bnO o.op=true)(k:EO X ops (o::r) ⟨t,h,n,w⟩ Q):EO X ops (o::r) ⟨t,h,n,w⟩ Q:=k
theorem zgL {x:Operand}{b:Nat}{y:BF}(_:o.op=.load ty x)(_:evF t x=.pointer (some ⟨b,off,none⟩))(hb:h b=some y)(k:h b=some y→EO X ops (o::r) ⟨t,h,n,w⟩ Q):EO X ops (o::r) ⟨t,h,n,w⟩ Q:=k hb
theorem zgQ {x:Operand}{q:BinOp}(_:o.op=.binOp q ty x y ty')(_:litB (evF t x)=true)(_:litB (evF t y)=true)(k:EO X ops (o::r) ⟨t,h,n,w⟩ Q):EO X ops (o::r) ⟨t,h,n,w⟩ Q:=k
theorem zgN {x:Operand}{a:Option Addr}{l c:Nat}(_:lnO o.op=some x)(_:evF t x=.slice a l c)(k:EO X ops (o::r) ⟨t,h,n,w⟩ Q):EO X ops (o::r) ⟨t,h,n,w⟩ Q:=k
end
section
variable {X:CtxF}{ops r:List Oper}{ms:List Nat}{i m:Nat}{t:TF}{h:HF}{n:Nat}{w:List Nat}{al ld:List (Nat×Nat)}{ef:List (Nat×HF×List Nat)}{Q:SV→Prop}{o:Oper}{d:Tmp}
theorem zhE (_:ezO o.op=true)(k:ED X ops (o::r) (m::ms) i ⟨⟨t,h,n,w⟩,al,ld,ef⟩ Q):ED X ops (o::r) (m::ms) i ⟨⟨t,h,n,w⟩,al,ld,ef⟩ Q:=k
theorem zhB (_:bnO o.op=true)(k:ED X ops (o::r) (m::ms) i ⟨⟨t,h,n,w⟩,al,ld,ef⟩ Q):ED X ops (o::r) (m::ms) i ⟨⟨t,h,n,w⟩,al,ld,ef⟩ Q:=k
theorem zhL {x:Operand}{b:Nat}{y:BF}{g:HF}(_:o.op=.load ty x)(_:evF t x=.pointer (some ⟨b,off,none⟩))(_:wk m ef i h=(u,g))(hb:g b=some y)(k:g b=some y→ED X ops (o::r) (m::ms) i ⟨⟨t,h,n,w⟩,al,ld,ef⟩ Q):ED X ops (o::r) (m::ms) i ⟨⟨t,h,n,w⟩,al,ld,ef⟩ Q:=k hb
theorem zhQ {x:Operand}{q:BinOp}(_:o.op=.binOp q ty x y ty')(_:litB (evF t x)=true)(_:litB (evF t y)=true)(k:ED X ops (o::r) (m::ms) i ⟨⟨t,h,n,w⟩,al,ld,ef⟩ Q):ED X ops (o::r) (m::ms) i ⟨⟨t,h,n,w⟩,al,ld,ef⟩ Q:=k
theorem zhN {x:Operand}{a:Option Addr}{l c:Nat}(_:lnO o.op=some x)(_:evF t x=.slice a l c)(k:ED X ops (o::r) (m::ms) i ⟨⟨t,h,n,w⟩,al,ld,ef⟩ Q):ED X ops (o::r) (m::ms) i ⟨⟨t,h,n,w⟩,al,ld,ef⟩ Q:=k
end
theorem zG {p q:Prop}(k:q)(e:Hd q→p:=by intro k;(repeat (first|refine kH R3 ?_|(refine zgE rfl ?_;first|refine st_I R5 ?_|refine st_B R5 ?_|refine st_S R5 ?_|refine st_P R5 ?_|refine st_A R5 ?_|refine st_T R5 ?_|refine st_U R5 ?_|refine zA (v:=.pointer none) R5 ?_)|(refine zgL rfl rfl (by (repeat (first|assumption|(apply Ext.zz;assumption;omega)|(apply Sto.zz;assumption;omega)|(apply Only.zz;assumption;omega)|(apply Lpo.zz;assumption;omega)|(apply Exa.zz;assumption;omega)|(apply ExtB.zz;assumption;omega;(simp only [List.mem_cons,List.not_mem_nil,or_false,not_false_eq_true]<;>omega))))) (fun hblk=>?_);first|refine zI R5 (zF rfl hblk R2) ?_|refine zI R5 (ld1 rfl rfl hblk rfl) ?_|refine zI R5 (ld2 rfl rfl hblk rfl) ?_|refine zI R5 (ld3 rfl rfl hblk rfl) ?_|refine zI R5 (ld4 rfl rfl hblk rfl) ?_|refine zI R5 (ld5 rfl rfl hblk rfl) ?_|refine zI R5 (ld6 rfl rfl hblk rfl) ?_|refine zI R5 (ld10 rfl rfl hblk rfl) ?_|refine zI R5 (ld11 rfl rfl hblk rfl) ?_)|(refine zgN rfl rfl ?_;refine st_I R5 ?_)|(refine zgQ rfl rfl rfl ?_;refine st_B R5 ?_)|(refine zgB rfl ?_;first|refine qG R6 zo ?_|refine fa R6 zo ?_|refine qH R6 zo ?_|refine pI R6 zo ?_|refine nR R6 zo ?_|refine kJ R6 zo ?_|refine nT R6 zo ?_|refine kK R6 zo ?_|refine fc R6 zo ?_|refine fd R6 zo ?_|refine mL R6 zo ?_|refine mM R6 zo ?_|refine vv R6 zo ?_|refine nQ R6 zo ?_)|simp only [NV,Nat.reduceEqDiff,reduceCtorEq]|refine (zc rfl).mpr ?_|refine (za rfl).mpr ?_));exact k.go):p:=e ⟨k⟩
theorem zH {p q:Prop}(k:q)(e:Hd q→p:=by intro k;(repeat (first|refine zbz rfl rfl rfl ?_|(refine zhE rfl ?_;first|refine dr_I R5 ?_|refine dr_B R5 ?_|refine dr_S R5 ?_|refine dr_P R5 ?_|refine dr_A R5 ?_|refine dr_T R5 ?_|refine dr_U R5 ?_)|(refine zhL rfl rfl rfl (by (repeat (first|assumption|(apply Ext.zz;assumption;omega)|(apply Sto.zz;assumption;omega)|(apply Only.zz;assumption;omega)|(apply Lpo.zz;assumption;omega)|(apply Exa.zz;assumption;omega)|(apply ExtB.zz;assumption;omega;(simp only [List.mem_cons,List.not_mem_nil,or_false,not_false_eq_true]<;>omega))))) (fun hblk=>?_);first|refine zL R6 (zF rfl hblk R2) R2 ?_|refine zL R6 (ld1 rfl rfl hblk rfl) R2 ?_|refine zL R6 (ld2 rfl rfl hblk rfl) R2 ?_|refine zL R6 (ld3 rfl rfl hblk rfl) R2 ?_|refine zL R6 (ld4 rfl rfl hblk rfl) R2 ?_|refine zL R6 (ld5 rfl rfl hblk rfl) R2 ?_|refine zL R6 (ld6 rfl rfl hblk rfl) R2 ?_|refine zL R6 (ld10 rfl rfl hblk rfl) R2 ?_|refine zL R6 (ld11 rfl rfl hblk rfl) R2 ?_)|(refine zhN rfl rfl ?_;refine dr_I R5 ?_)|(refine zhQ rfl rfl rfl ?_;refine dr_B R5 ?_)|(refine zhB rfl ?_;first|refine zgs R6 zo ?_|refine zgt R6 zo ?_|refine zgu R6 zo ?_|refine zgv R6 zo ?_|refine zgw R6 zo ?_|refine zgx R6 zo ?_|refine zgy R6 zo ?_|refine zgz R6 zo ?_|refine zg0 R6 zo ?_|refine zg1 R6 zo ?_|refine zb0 R6 zo ?_|refine zb1 R6 zo ?_|refine zb4 R6 zo ?_|refine zby R6 zo ?_)|simp only [NV,Nat.reduceEqDiff,reduceCtorEq]|refine (zc rfl).mpr ?_|refine (za rfl).mpr ?_));exact k.go):p:=e ⟨k⟩
theorem zJ {p q:Prop}(k:q)(e:Hd q→p:=by intro k;refine zH ?_;refine zG ?_;exact k.go):p:=e ⟨k⟩
section
variable {X:CtxF}{nt kk n0:Nat}{ops r:List Oper}{t:TF}{h:HF}{n:Nat}{w:List Nat}{Q:SV→Prop}{o:Oper}{d:Tmp}
theorem zmk {m b i c:Nat}{r:List (Nat×Nat)}(h:c≠b)(k:zV m [b] r=true):zV m [b] ((i,c)::r)=true:=by
 have hm:memN c [b]=false:=by
  unfold memN;cases he:Nat.beq c b with
  |false=>rfl
  |true=>exact absurd (Nat.eq_of_beq_eq_true he) h
 unfold zV;rw [hm,Bool.not_false,Bool.or_true];exact k
theorem vc_A (h:v=.agg ⟨cs⟩):zr v=cs:=by
 subst h;rfl
theorem sA {e:TypeId}(k:∀h',h' (3*n+2)=some (.row cs e)→Ext n h h'→EO X ops r ⟨upd t d (.pointer (some ⟨3*n+2,0,none⟩)),h',n+1,w⟩ Q)(hw:zh ops t o=true:=by exact rfl)(hd:o.dst=some d:=by exact rfl)(hn:zm X.nt (some d)=true:=by exact rfl)(ho:o.op=.alloc e:=by exact rfl)(hi:X.E.inf e=some (sz,bt,z):=by exact rfl)(hz:zr z=cs:=by first|exact vc_A rfl|exact rfl):EO X ops (o::r) ⟨t,h,n,w⟩ Q:=we cs ⟨hw,hd,hn,ho,hi,hz⟩ k
theorem sB {e:TypeId}(cs:List Value)(k:∀h',h' (3*n+2)=some (.row cs e)→Ext n h h'→EO X ops r ⟨upd t d (.pointer (some ⟨3*n+2,0,none⟩)),h',n+1,w⟩ Q)(hw:zh ops t o=true:=by exact rfl)(hd:o.dst=some d:=by exact rfl)(hn:zm X.nt (some d)=true:=by exact rfl)(hc:cls o.op=2:=by exact rfl)(hm:mkE X.E o.op (evF t)=some ⟨cs,e,false,none⟩:=by exact rfl):EO X ops (o::r) ⟨t,h,n,w⟩ Q:=tF cs ⟨hw,hd,hn,hc,hm⟩ k
theorem sC {P:Value→HF→Nat→Prop}(hcall:CX X.C f args h n P)(k:∀v h' n',P v h' n'→n≤n'→Ext n h h'→EO X ops r ⟨upd t d v,h',n',w⟩ Q)(hw:zh ops t o=true:=by exact rfl)(hd:o.dst=some d:=by exact rfl)(hn:zm X.nt (some d)=true:=by exact rfl)(hc:cls o.op=3:=by exact rfl)(he:effF X.E o.op (evF t) h n=some (.enter f args):=by exact rfl):EO X ops (o::r) ⟨t,h,n,w⟩ Q:=jO ⟨hw,hd,hn,hc,he⟩ hcall k
theorem sT (cs:Array Value)(k:EO X ops r ⟨upd t d (.agg cs),h,n,w⟩ Q)(hw:zh ops t o=true:=by exact rfl)(hd:o.dst=some d:=by exact rfl)(hn:zm X.nt (some d)=true:=by exact rfl)(hc:cls o.op=0:=by exact rfl)(hv:yn X.E o.op (evF t)=some (.agg cs):=by exact rfl):EO X ops (o::r) ⟨t,h,n,w⟩ Q:=st_A ⟨hw,hd,hn,hc,hv⟩ k
theorem sS {a x:Operand}{b:Nat}{e:TypeId}(c':List Value)(k:∀h',h' b=some (.row c' e)→Sto b h h'→EO (ctx kk n0 nt) ops r ⟨t,h',n,w⟩ Q)(hw:zh ops t o=true:=by exact rfl)(hd:o.dst=none:=by exact rfl)(ho:o.op=.store ty a x:=by exact rfl)(hi:env.inf ty=some (sz,bt,z):=by exact rfl)(ha:evF t a=.pointer (some ⟨b,off,none⟩):=by exact rfl)(hb:h b=some (.row c e):=by exact zp)(hu:c.all nu=true:=by exact rfl)(hx:zr (evF t x)=cs:=by exact rfl)(hs:cs.length=sz:=by exact rfl)(h1:ones cs=true:=by exact rfl)(hl:off+sz≤c.length:=by exact zb)(hsp:zn c off cs=c':=by exact rfl)(hnew:3*n0≤b:=by omega):EO (ctx kk n0 nt) ops (o::r) ⟨t,h,n,w⟩ Q:=pz c' ⟨hw,hd,ho,hi,ha⟩ hb ⟨hx,hs,h1⟩ hl hsp hnew fun h' p q=>k h' p ⟨q,_,_,hb,hu⟩
end
section
variable {X:CtxF}{nt kk n0:Nat}{ops r:List Oper}{ms:List Nat}{i m:Nat}{t:TF}{h:HF}{n:Nat}{w:List Nat}{al ld:List (Nat×Nat)}{ef:List (Nat×HF×List Nat)}{Q:SV→Prop}{o:Oper}{d:Tmp}
theorem dB {e:TypeId}(cs:List Value)(k:∀h',h' (3*n+2)=some (.row cs e)→Ext n h h'→ED X ops r ms (i+1) ⟨⟨upd t d (.pointer (some ⟨3*n+2,0,none⟩)),h',n+1,w⟩,(i,3*n+2)::al,ld,ef⟩ Q)(hw:zh ops t o=true:=by exact rfl)(hd:o.dst=some d:=by exact rfl)(hn:zm X.nt (some d)=true:=by exact rfl)(hc:cls o.op=2:=by exact rfl)(hm:mkE X.E o.op (evF t)=some ⟨cs,e,false,none⟩:=by exact rfl):ED X ops (o::r) (m::ms) i ⟨⟨t,h,n,w⟩,al,ld,ef⟩ Q:=zj2 cs hw hd hn hc hm k
theorem dC {P:Value→HF→Nat→Prop}(hcall:CX X.C f args h n P)(k:∀v h' n',P v h' n'→n≤n'→Ext n h h'→ED X ops r ms (i+1) ⟨⟨upd t d v,h',n',w⟩,al,ld,(i,h,[])::ef⟩ Q)(hw:zh ops t o=true:=by exact rfl)(hd:o.dst=some d:=by exact rfl)(hn:zm X.nt (some d)=true:=by exact rfl)(hc:cls o.op=3:=by exact rfl)(he:effF X.E o.op (evF t) h n=some (.enter f args):=by exact rfl)(h1:yN m ef=true:=by exact rfl)(h2:xI m al=true:=by exact rfl):ED X ops (o::r) (m::ms) i ⟨⟨t,h,n,w⟩,al,ld,ef⟩ Q:=zg7 hw hd hn hc he hcall h1 h2 k
theorem dT (cs:Array Value)(k:ED X ops r ms (i+1) ⟨⟨upd t d (.agg cs),h,n,w⟩,al,ld,ef⟩ Q)(hw:zh ops t o=true:=by exact rfl)(hd:o.dst=some d:=by exact rfl)(hn:zm X.nt (some d)=true:=by exact rfl)(hc:(cls o.op==0||cls o.op==4)=true:=by exact rfl)(hv:yn X.E o.op (evF t)=some (.agg cs):=by exact rfl):ED X ops (o::r) (m::ms) i ⟨⟨t,h,n,w⟩,al,ld,ef⟩ Q:=dr_A ⟨hw,hd,hn,hc,hv⟩ k
theorem dS {a x:Operand}{b:Nat}{e:TypeId}(c':List Value)(k:∀h',h' b=some (.row c' e)→Sto b h h'→ED (ctx kk n0 nt) ops r ms (i+1) ⟨⟨t,h',n,w⟩,al,ld,(i,h,[b])::ef⟩ Q)(hw:zh ops t o=true:=by exact rfl)(hd:o.dst=none:=by exact rfl)(ho:o.op=.store ty a x:=by exact rfl)(hi:env.inf ty=some (sz,bt,z):=by exact rfl)(ha:evF t a=.pointer (some ⟨b,off,none⟩):=by exact rfl)(hb:h b=some (.row c e):=by exact zp)(hu:c.all nu=true:=by exact rfl)(hx:zr (evF t x)=cs:=by exact rfl)(hs:cs.length=sz:=by exact rfl)(h1:ones cs=true:=by exact rfl)(hl:off+sz≤c.length:=by exact zb)(hsp:zn c off cs=c':=by exact rfl)(hnew:3*n0≤b:=by omega)(g1:yN m ef=true:=by exact rfl)(g2:xI m al=true:=by exact rfl)(g3:zV m [b] ld=true:=by first|exact rfl|(repeat (first|exact rfl|(apply zmk;omega)))):ED (ctx kk n0 nt) ops (o::r) (m::ms) i ⟨⟨t,h,n,w⟩,al,ld,ef⟩ Q:=zj0 c' hw hd ho hi ha hb hx hs h1 hl hsp hnew g1 g2 g3 fun h' p q=>k h' p ⟨q,_,_,hb,hu⟩
end
theorem zf7 {s:SV}{a:Tmp}{b:Nat}{y:BF}{r:List ResultVar}(_:s.t a=.pointer (some ⟨b,off,none⟩))(hb:s.h b=some y)(k:s.h b=some y→resF env s (.cell a ty::r)=some vs):resF env s (.cell a ty::r)=some vs:=k hb
theorem zq {p:Prop}{P:Value→HF→Nat→Prop}{e:Ex}{t:TF}{h:HF}{n0 n:Nat}(hp:P (qb vs) h n)(go:Hd (RetH fn (Gw n0 h0 P) e ⟨t,h,n,[]⟩)→p:=by intro k;refine zH ?_;refine zG ?_;exact k.go)(he:sc e=true:=by exact rfl)(hr:resF env ⟨t,h,n,[]⟩ fn.results.toList=some vs:=by (repeat (first|exact qJ|(apply yM (v:=.bool _);exact rfl)|(apply yM (v:=.int _ _);exact rfl)|(apply yM (v:=.slice _ _ _);exact rfl)|(apply yM (v:=.agg #[_,_]);exact rfl)|(apply yM (v:=.agg #[_,_,_,_]);exact rfl)|(apply yM (v:=.string _);exact rfl)|(apply yM;exact rfl)|(apply zf7;exact rfl;(focus ((repeat (first|assumption|(apply Ext.zz;assumption;omega)|(apply Sto.zz;assumption;omega)|(apply Only.zz;assumption;omega)|(apply Lpo.zz;assumption;omega)|(apply Exa.zz;assumption;omega)|(apply ExtB.zz;assumption;omega;(simp only [List.mem_cons,List.not_mem_nil,or_false,not_false_eq_true]<;>omega))));done));intro hblk;first|(apply xV;exact rfl;exact zF rfl hblk R2)|(apply xV;exact rfl;exact ld1 rfl rfl hblk rfl)|(apply xV;exact rfl;exact ld2 rfl rfl hblk rfl)|(apply xV;exact rfl;exact ld3 rfl rfl hblk rfl)|(apply xV;exact rfl;exact ld4 rfl rfl hblk rfl)|(apply xV;exact rfl;exact ld5 rfl rfl hblk rfl)|(apply xV;exact rfl;exact ld6 rfl rfl hblk rfl)|(apply xV;exact rfl;exact ld10 rfl rfl hblk rfl)|(apply xV;exact rfl;exact ld11 rfl rfl hblk rfl)))))(hf:ur vs=false:=by exact rfl)(hx:Tx n0 h0 n h:=by exact zx):p:=go ⟨retX vs ⟨he,hr,hf⟩ hx.1 hx.2 hp⟩
theorem zf {p:Prop}{P:Value→Prop}{e:Ex}{s:SV}(hp:P (qb vs))(go:Hd (RetF fn P e s)→p:=by intro k;refine zH ?_;refine zG ?_;exact k.go)(he:sc e=true:=by exact rfl)(hr:resF env s fn.results.toList=some vs:=by (repeat (first|exact qJ|(apply yM (v:=.bool _);exact rfl)|(apply yM (v:=.int _ _);exact rfl)|(apply yM (v:=.slice _ _ _);exact rfl)|(apply yM (v:=.agg #[_,_]);exact rfl)|(apply yM (v:=.agg #[_,_,_,_]);exact rfl)|(apply yM (v:=.string _);exact rfl)|(apply yM;exact rfl)|(apply zf7;exact rfl;(focus ((repeat (first|assumption|(apply Ext.zz;assumption;omega)|(apply Sto.zz;assumption;omega)|(apply Only.zz;assumption;omega)|(apply Lpo.zz;assumption;omega)|(apply Exa.zz;assumption;omega)|(apply ExtB.zz;assumption;omega;(simp only [List.mem_cons,List.not_mem_nil,or_false,not_false_eq_true]<;>omega))));done));intro hblk;first|(apply xV;exact rfl;exact zF rfl hblk R2)|(apply xV;exact rfl;exact ld1 rfl rfl hblk rfl)|(apply xV;exact rfl;exact ld2 rfl rfl hblk rfl)|(apply xV;exact rfl;exact ld3 rfl rfl hblk rfl)|(apply xV;exact rfl;exact ld4 rfl rfl hblk rfl)|(apply xV;exact rfl;exact ld5 rfl rfl hblk rfl)|(apply xV;exact rfl;exact ld6 rfl rfl hblk rfl)|(apply xV;exact rfl;exact ld10 rfl rfl hblk rfl)|(apply xV;exact rfl;exact ld11 rfl rfl hblk rfl)))))(hf:ur vs=true:=by exact rfl)(hw:s.w=[]:=by exact rfl):p:=go ⟨retF vs he hr ⟨hf,hw⟩ hp⟩
theorem sF {X:CtxF}{c:Code}{t:TF}{h:HF}{n:Nat}{w:List Nat}{Q:Ex→SV→Prop}(live:α→List (Nat×Value))(I:α→HF→Nat→List Nat→Prop)(μ:α→Nat)(a:α)(hI:I a h n w)(round:∀a t h n w,I a h n w→EC X c ⟨gu t (live a),h,n,w⟩ (qP live I μ a Q))(hl:tE t (live a):=by repeat (first|exact trivial|refine ⟨rfl,?_⟩))(hm:μ a<X.L:=by show _<LL;unfold LL;(try dsimp only);omega):EC X (.loop c) ⟨t,h,n,w⟩ Q:=zQ live I μ a hl hI hm round
theorem sK {live:α→List (Nat×Value)}{I:α→HF→Nat→List Nat→Prop}{μ:α→Nat}{a:α}{Q:Ex→SV→Prop}{t:TF}{h:HF}{n:Nat}{w:List Nat}(a':α)(h3:I a' h n w)(h1:μ a'<μ a:=by (try dsimp only);omega)(h2:tE t (live a'):=by repeat (first|exact trivial|refine ⟨rfl,?_⟩)):qP live I μ a Q .normal ⟨t,h,n,w⟩:=goOn a' h1 h2 h3
end
section
section
variable (k:Nat){h:HF}{n:Nat}{a1 a2:Option Addr}{l1 c1 l2 c2 x y:Nat}
theorem zll (i:WW h n a1 l1 c1 x)(hx:x<BW){d:Nat}(hd:0<d∧d<18446744073709551616):CX (cal (k+4)) 238 [.slice a1 l1 c1,.int .u64 (d:Int)] h n fun v h' n'=>∃a l c,v=.tuple #[.slice a l c,.int .u64 ((x%d:Nat):Int)]∧WW h' n' a l c (x/d):=by
 obtain ⟨A,hA,nA,rfl⟩:=i;have:=nA.len39 hx;refine yh (cf k zo nA.1 hd hA) ?_;rintro v h' n' w ⟨v1,L,rfl,⟨h1,h2,h3,h4,h5⟩,e,_⟩;obtain ⟨a,l,c,rfl,_⟩:=h4.len;exact ⟨h1,h2,h3,_,_,_,rfl,L,h4,h5,e⟩
theorem zlm (i:WW h n a1 l1 c1 x)(j:WW h n a2 l2 c2 y)(hb:x<BW∧y<BW)(h0:0<y):CX (cal (k+5)) 212 [.slice a1 l1 c1,.slice a2 l2 c2] h n fun v h' n'=>∃a l c a' l' c',v=.tuple #[.slice a l c,.slice a' l' c']∧WW h' n' a l c (x/y)∧WW h' n' a' l' c' (x%y):=by
 refine zk (fn:=Tryz.f212) R4 ?_;refine zG ?_;refine sC (zjj (k+1) i j hb) ?_;rintro _ h1 n1 ⟨s,rfl,hs⟩ y1 x1;by_cases hlt:x<y
 ·have hs:s= -1:=zo;subst hs;refine zG ?_;refine zq ?_;exact ⟨_,_,_,_,_,_,rfl,(WW.nil _ _).as (Nat.div_eq_of_lt hlt).symm,(i.ext x1 y1).as (Nat.mod_eq_of_lt hlt).symm⟩
 have hs:¬s<0:=zo;obtain ⟨C,hC,nC,rfl⟩:=j;have h2:=nC.len39 hb.2;have hlC:=hC.lenW;have hne:C≠[]:=fun h=>by rw [h] at h0;exact absurd h0 zd
 obtain ⟨d,rfl⟩:∃d,C=[d]:=by
  cases C with
  |nil=>exact absurd rfl hne
  |cons d C=>
   cases C with
   |nil=>exact ⟨d,rfl⟩
   |cons e C=>simp only [List.length_cons] at h2;omega
 have hl2:l2=1:=hlC;subst hl2;rw [px] at h0 hb ⊢;obtain ⟨b,off,xx,cs,rfl,hbn,hxx,hc,hcap,hle,he⟩:=(hC.ext x1 y1).inv zo;refine zG ?_;refine yR R8 zo ?_;refine zg R6 hxx (v:=.int .u64 (d:Int)) ⟨hc,(by show cs[off+0]?=_;exact yX (j:=0) he rfl)⟩ ?_;refine zG ?_;have hdw:=zll (k+0) (i.ext x1 y1) hb.1 (d:=d) ⟨h0,by have:=hb.2;unfold BW at this;rwa [Nat.pow_one] at this⟩;refine sC hdw ?_;rintro _ h2 n2 ⟨a,l,c,rfl,i2⟩ y2 x2;refine zG ?_;have hfw:=zgp (k+3) h2 n2 (w:=x%d) (by have:=Nat.mod_lt x h0;have:=hb.2;unfold BW at this;rw [Nat.pow_one] at this;omega);refine sC hfw ?_;rintro _ h3 n3 ⟨a3,l3,c3,rfl,i3⟩ y3 x3;refine zG ?_;refine zq ?_;exact ⟨_,_,_,_,_,_,rfl,i2.ext x3 y3,i3⟩
theorem zlk (i:WW h n a1 l1 c1 x)(j:WW h n a2 l2 c2 y)(hb:x<BW∧y<BW)(h0:0<y):CX (cal (k+6)) 181 [.slice a1 l1 c1,.slice a2 l2 c2] h n fun v h' n'=>∃a l c a' l' c',v=.tuple #[.slice a l c,.slice a' l' c']∧WW h' n' a l c (x/y)∧WW h' n' a' l' c' (x%y):=by
 have h2:l2≤1:=by
  obtain ⟨C,hC,nC,rfl⟩:=j;have:=nC.len39 hb.2;have:=hC.lenW;omega
 refine zk (fn:=Tryz.f181) R4 ?_;refine zG ?_;refine sC (zlm k i j hb h0) ?_;rintro _ h1 n1 ⟨a,l,c,a',l',c',rfl,i1,j1⟩ y1 x1;refine zG ?_;refine zq ?_;exact ⟨_,_,_,_,_,_,rfl,i1,j1⟩
theorem zlb (g:GG h n)(i:WW h n a1 l1 c1 x)(j:WW h n a2 l2 c2 y)(hb:x<BW∧y<BW):CX (cal (k+7)) 150 [.slice a1 l1 c1,.slice a2 l2 c2] h n (WV (Nat.gcd x y)):=by
 obtain ⟨A,hA,nA,rfl⟩:=i;obtain ⟨C,hC,nC,rfl⟩:=j;have:=nA.len39 hb.1;have:=nC.len39 hb.2;refine yh (zet (k+2) g.1 g.2 hA hC nA nC zo (.inl zo)) ?_;rintro v h' n' w ⟨L,r,e,_⟩;exact r.ww e
end
end
section
variable {h:HF}{cx cy lx ly n:Nat}{sx sy:Bool}{ax ay:Option Addr}
theorem fK (k:Nat){x:Int}(ix:IW h n sx ax lx cx x):VF (cal (k+1)) 126 [.agg #[.bool sx,.slice ax lx cx]] h n fun v=>∃b:Bool,v=.bool b∧(b=true↔x=0):=by
 refine zw (fn:=Tryz.f126) R4 ?_;refine zG ?_;refine sB [.bool sx,.slice ax lx cx] ?_;intro h11 p11 x11;refine zG ?_;by_cases q12:(lx:Int)=0
 ·refine zf ?_;exact ⟨_,rfl,by have:=ix.2.zero;simp only [reduceCtorEq,true_iff,false_iff];omega⟩
 refine zf ?_;exact ⟨_,rfl,by have:=ix.2.zero;simp only [reduceCtorEq,true_iff,false_iff];omega⟩
theorem xH (k:Nat){bx:Bool}{x:Int}(ix:IW h n bx ax lx cx x):CX (cal (k+1)) 126 [.agg #[.bool bx,.slice ax lx cx]] h n (BV (x=0)):=(fK k ix).cx
theorem zke (k:Nat){x:Int}(ix:IW h n sx ax lx cx x):VF (cal (k+1)) 205 [.agg #[.bool sx,.slice ax lx cx]] h n fun v=>∃s:Int,v=.int .i64 s∧(s= -1∧x<0∨s=0∧x=0∨s=1∧0<x):=by
 refine zw (fn:=Tryz.f205) R4 ?_;refine zG ?_;refine sB [.bool sx,.slice ax lx cx] ?_;intro h11 p11 x11;refine zG ?_;by_cases q12:(lx:Int)=0
 ·refine zf ?_;exact ⟨_,rfl,by have:=ix.2.zero;omega⟩
 refine zG ?_;cases sx
 ·refine zf ?_;exact ⟨_,rfl,by have:=ix.ge;have:=ix.2.zero;omega⟩
 refine zf ?_;exact ⟨_,rfl,by have:=ix.lt;have:=ix.2.zero;omega⟩
theorem zhs (k:Nat){bx:Bool}{x:Int}(ix:IW h n bx ax lx cx x):CX (cal (k+1)) 205 [.agg #[.bool bx,.slice ax lx cx]] h n (SV3 x):=(zke k ix).cx
theorem rx (k:Nat){bx:Bool}{x:Int}(ix:IW h n bx ax lx cx x):CX (cal (k+1)) 118 [.agg #[.bool bx,.slice ax lx cx]] h n (BV (x=1)):=by
 obtain ⟨e,L,hs,hN,hv⟩:=ix;refine (zen k hs hN).cx.mono ?_;rintro _ _ _ rfl;refine ⟨_,rfl,?_⟩;rw [hv,e,Bool.and_eq_true,Bool.not_eq_true',decide_eq_false_iff_not,decide_eq_true_iff];omega
theorem negX (k:Nat){x:Int}(ix:IW h n sx ax lx cx x):CX (cal (k+2)) 153 [.agg #[.bool sx,.slice ax lx cx]] h n (IV (-x)):=by
 refine zk (fn:=Tryz.f153) R4 ?_;refine zG ?_;refine sB [.bool sx,.slice ax lx cx] ?_;intro h11 p11 x11;refine sA ?_;intro h12 p12 x12;refine zG ?_;cases sx
 ·refine zG ?_;refine sC (xO _ (ix.t zt).2 true) ?_;rintro _ h13 n13 ⟨b13,a13,l13,c13,rfl,i13⟩ y13 x13;refine sS [.bool b13,.slice a13 l13 c13] ?_;intro h14 p14 o14;refine zq ?_;exact ⟨_,_,_,_,rfl,(i13.t zt).as (by have:=ix.ge;unfold sgZ;(try simp only [Bool.not_true,Bool.not_false,if_true,if_false,Bool.false_eq_true]);omega)⟩
 refine zG ?_;refine sC (xO _ (ix.t zt).2 false) ?_;rintro _ h15 n15 ⟨b15,a15,l15,c15,rfl,i15⟩ y15 x15;refine sS [.bool b15,.slice a15 l15 c15] ?_;intro h16 p16 o16;refine zq ?_;exact ⟨_,_,_,_,rfl,(i15.t zt).as (by have:=ix.lt;unfold sgZ;(try simp only [Bool.not_true,Bool.not_false,if_true,if_false,Bool.false_eq_true]);omega)⟩
theorem uH {b:Bool}{x y:Int}(h:b=(decide (x<0) != decide (y<0))):sgZ b (x.natAbs*y.natAbs)=x*y:=by
 subst h;by_cases hx:x<0<;>by_cases hy:y<0
 ·rw [decide_eq_true hx,decide_eq_true hy];show ((x.natAbs*y.natAbs:Nat):Int)=_;rw [Int.natCast_mul,Int.ofNat_natAbs_of_nonpos zo,Int.ofNat_natAbs_of_nonpos zo,Int.neg_mul_neg]
 ·rw [decide_eq_true hx,decide_eq_false hy];show -((x.natAbs*y.natAbs:Nat):Int)=_;rw [Int.natCast_mul,Int.ofNat_natAbs_of_nonpos zo,Int.natAbs_of_nonneg zo,Int.neg_mul,Int.neg_neg]
 ·rw [decide_eq_false hx,decide_eq_true hy];show -((x.natAbs*y.natAbs:Nat):Int)=_;rw [Int.natCast_mul,Int.natAbs_of_nonneg zo,Int.ofNat_natAbs_of_nonpos zo,Int.mul_neg,Int.neg_neg]
 rw [decide_eq_false hx,decide_eq_false hy];show ((x.natAbs*y.natAbs:Nat):Int)=_;rw [Int.natCast_mul,Int.natAbs_of_nonneg zo,Int.natAbs_of_nonneg zo]
theorem mS {b:Bool}{x y:Int}(h:b=(decide (x<0) != decide (y<0))):sgZ b (x.natAbs/y.natAbs)=x.tdiv y:=by
 subst h;by_cases hx:x<0<;>by_cases hy:y<0
 ·obtain ⟨a,rfl⟩:∃a:Nat,x= -(a:Int):=⟨x.natAbs,zo⟩;obtain ⟨c,rfl⟩:∃c:Nat,y= -(c:Int):=⟨y.natAbs,zo⟩;rw [decide_eq_true hx,decide_eq_true hy,Int.neg_tdiv,Int.tdiv_neg,Int.neg_neg,Int.natAbs_neg,Int.natAbs_neg];rfl
 ·obtain ⟨a,rfl⟩:∃a:Nat,x= -(a:Int):=⟨x.natAbs,zo⟩;obtain ⟨c,rfl⟩:∃c:Nat,y=(c:Int):=⟨y.natAbs,zo⟩;rw [decide_eq_true hx,decide_eq_false hy,Int.neg_tdiv,Int.natAbs_neg];rfl
 ·obtain ⟨a,rfl⟩:∃a:Nat,x=(a:Int):=⟨x.natAbs,zo⟩;obtain ⟨c,rfl⟩:∃c:Nat,y= -(c:Int):=⟨y.natAbs,zo⟩;rw [decide_eq_false hx,decide_eq_true hy,Int.tdiv_neg,Int.natAbs_neg];rfl
 obtain ⟨a,rfl⟩:∃a:Nat,x=(a:Int):=⟨x.natAbs,zo⟩;obtain ⟨c,rfl⟩:∃c:Nat,y=(c:Int):=⟨y.natAbs,zo⟩;rw [decide_eq_false hx,decide_eq_false hy];rfl
theorem mulX (k:Nat){x:Int}{y:Int}(ix:IW h n sx ax lx cx x)(iy:IW h n sy ay ly cy y)(hx:x.natAbs<BW)(hy:y.natAbs<BW):CX (cal (k+5)) 128 [.agg #[.bool sx,.slice ax lx cx],.agg #[.bool sy,.slice ay ly cy]] h n (IV (x*y)):=by
 refine zk (fn:=Tryz.f128) R4 ?_;refine zG ?_;refine sB [.bool sx,.slice ax lx cx] ?_;intro h11 p11 x11;refine sB [.bool sy,.slice ay ly cy] ?_;intro h12 p12 x12;refine sA ?_;intro h13 p13 x13;refine zG ?_;refine zl [0,1,0,4,15,0,32,0,128,480,1023,2047] rfl ?_;refine zH ?_;cases sx
 ·refine zH ?_;cases sy
  ·refine zH ?_;refine dC (zal _ (ix.t zt).2 (iy.t zt).2 zhh) ?_;rintro _ h14 n14 ⟨a14,l14,c14,rfl,i14⟩ y14 x14;refine dC (xO _ i14 false) ?_;rintro _ h15 n15 ⟨b15,a15,l15,c15,rfl,i15⟩ y15 x15;refine dS [.bool b15,.slice a15 l15 c15] ?_;intro h16 p16 o16;refine zq ?_;exact ⟨_,_,_,_,rfl,(i15.t zt).as (by have:=ix.ge;have:=iy.ge;exact uH (by simp<;>omega))⟩
  refine zH ?_;refine dC (zal _ (ix.t zt).2 (iy.t zt).2 zhh) ?_;rintro _ h17 n17 ⟨a17,l17,c17,rfl,i17⟩ y17 x17;refine dC (xO _ i17 true) ?_;rintro _ h18 n18 ⟨b18,a18,l18,c18,rfl,i18⟩ y18 x18;refine dS [.bool b18,.slice a18 l18 c18] ?_;intro h19 p19 o19;refine zq ?_;exact ⟨_,_,_,_,rfl,(i18.t zt).as (by have:=ix.ge;have:=iy.lt;exact uH (by simp<;>omega))⟩
 refine zH ?_;cases sy
 ·refine zH ?_;refine dC (zal _ (ix.t zt).2 (iy.t zt).2 zhh) ?_;rintro _ h20 n20 ⟨a20,l20,c20,rfl,i20⟩ y20 x20;refine dC (xO _ i20 true) ?_;rintro _ h21 n21 ⟨b21,a21,l21,c21,rfl,i21⟩ y21 x21;refine dS [.bool b21,.slice a21 l21 c21] ?_;intro h22 p22 o22;refine zq ?_;exact ⟨_,_,_,_,rfl,(i21.t zt).as (by have:=ix.lt;have:=iy.ge;exact uH (by simp<;>omega))⟩
 refine zH ?_;refine dC (zal _ (ix.t zt).2 (iy.t zt).2 zhh) ?_;rintro _ h23 n23 ⟨a23,l23,c23,rfl,i23⟩ y23 x23;refine dC (xO _ i23 false) ?_;rintro _ h24 n24 ⟨b24,a24,l24,c24,rfl,i24⟩ y24 x24;refine dS [.bool b24,.slice a24 l24 c24] ?_;intro h25 p25 o25;refine zq ?_;exact ⟨_,_,_,_,rfl,(i24.t zt).as (by have:=ix.lt;have:=iy.lt;exact uH (by simp<;>omega))⟩
theorem zhz (k:Nat){x:Int}{y:Int}(ix:IW h n sx ax lx cx x)(iy:IW h n sy ay ly cy y)(hx:x.natAbs<BW)(hy:y.natAbs<BW)(hy0:y≠0):CX (cal (k+7)) 159 [.agg #[.bool sx,.slice ax lx cx],.agg #[.bool sy,.slice ay ly cy]] h n fun v h' n'=>∃b a l c g d e f,v=.tuple #[.agg #[.bool b,.slice a l c],.agg #[.bool g,.slice d e f]]∧IW h' n' b a l c (x.tdiv y)∧∃r,IW h' n' g d e f r:=by
 refine zk (fn:=Tryz.f159) R4 ?_;refine zG ?_;refine sB [.bool sx,.slice ax lx cx] ?_;intro h11 p11 x11;refine sB [.bool sy,.slice ay ly cy] ?_;intro h12 p12 x12;refine sA ?_;intro h13 p13 x13;refine sA ?_;intro h14 p14 x14;refine zG ?_;by_cases q15:(ly:Int)=0
 ·refine zG ?_;refine sT #[.bool false,.slice none 0 0] ?_;refine sT #[.bool false,.slice none 0 0] ?_;refine sS [.bool false,.slice none 0 0] ?_;intro h16 p16 o16;refine sS [.bool false,.slice none 0 0] ?_;intro h17 p17 o17;refine zG ?_;exact absurd (iy.2.zero.1 zo) zo
 refine zG ?_;refine sC (zlk _ (ix.t zt).2 (iy.t zt).2 zhh zo) ?_;rintro _ h18 n18 ⟨a18,l18,c18,d18,e18,f18,rfl,i18,j18⟩ y18 x18;refine zG ?_;refine zl [0,1,0,4,15,0,63,0,128,0,1023,2047,4095] rfl ?_;refine zH ?_;cases sx
 ·refine zH ?_;cases sy
  ·refine zH ?_;refine dC (xO _ i18 false) ?_;rintro _ h19 n19 ⟨b19,a19,l19,c19,rfl,i19⟩ y19 x19;refine zH ?_;refine dC (xO _ (j18.t zt) false) ?_;rintro _ h20 n20 ⟨b20,a20,l20,c20,rfl,i20⟩ y20 x20;refine dS [.bool b19,.slice a19 l19 c19] ?_;intro h21 p21 o21;refine dS [.bool b20,.slice a20 l20 c20] ?_;intro h22 p22 o22;refine zq ?_;exact ⟨_,_,_,_,_,_,_,_,rfl,(i19.t zt).as (by have:=ix.ge;have:=iy.ge;exact mS (by simp<;>omega)),_,(i20.t zt)⟩
  refine zH ?_;refine dC (xO _ i18 true) ?_;rintro _ h23 n23 ⟨b23,a23,l23,c23,rfl,i23⟩ y23 x23;refine zH ?_;refine dC (xO _ (j18.t zt) false) ?_;rintro _ h24 n24 ⟨b24,a24,l24,c24,rfl,i24⟩ y24 x24;refine dS [.bool b23,.slice a23 l23 c23] ?_;intro h25 p25 o25;refine dS [.bool b24,.slice a24 l24 c24] ?_;intro h26 p26 o26;refine zq ?_;exact ⟨_,_,_,_,_,_,_,_,rfl,(i23.t zt).as (by have:=ix.ge;have:=iy.lt;exact mS (by simp<;>omega)),_,(i24.t zt)⟩
 refine zH ?_;cases sy
 ·refine zH ?_;refine dC (xO _ i18 true) ?_;rintro _ h27 n27 ⟨b27,a27,l27,c27,rfl,i27⟩ y27 x27;refine zH ?_;refine dC (xO _ (j18.t zt) true) ?_;rintro _ h28 n28 ⟨b28,a28,l28,c28,rfl,i28⟩ y28 x28;refine dS [.bool b27,.slice a27 l27 c27] ?_;intro h29 p29 o29;refine dS [.bool b28,.slice a28 l28 c28] ?_;intro h30 p30 o30;refine zq ?_;exact ⟨_,_,_,_,_,_,_,_,rfl,(i27.t zt).as (by have:=ix.lt;have:=iy.ge;exact mS (by simp<;>omega)),_,(i28.t zt)⟩
 refine zH ?_;refine dC (xO _ i18 false) ?_;rintro _ h31 n31 ⟨b31,a31,l31,c31,rfl,i31⟩ y31 x31;refine zH ?_;refine dC (xO _ (j18.t zt) true) ?_;rintro _ h32 n32 ⟨b32,a32,l32,c32,rfl,i32⟩ y32 x32;refine dS [.bool b31,.slice a31 l31 c31] ?_;intro h33 p33 o33;refine dS [.bool b32,.slice a32 l32 c32] ?_;intro h34 p34 o34;refine zq ?_;exact ⟨_,_,_,_,_,_,_,_,rfl,(i31.t zt).as (by have:=ix.lt;have:=iy.lt;exact mS (by simp<;>omega)),_,(i32.t zt)⟩
theorem quoX (k:Nat){x:Int}{y:Int}(ix:IW h n sx ax lx cx x)(iy:IW h n sy ay ly cy y)(hx:x.natAbs<BW)(hy:y.natAbs<BW)(hy0:y≠0):CX (cal (k+8)) 129 [.agg #[.bool sx,.slice ax lx cx],.agg #[.bool sy,.slice ay ly cy]] h n (IV (x.tdiv y)):=by
 refine zk (fn:=Tryz.f129) R4 ?_;refine zG ?_;refine sB [.bool sx,.slice ax lx cx] ?_;intro h11 p11 x11;refine sB [.bool sy,.slice ay ly cy] ?_;intro h12 p12 x12;refine sA ?_;intro h13 p13 x13;refine zG ?_;refine sC (rx _ (iy.t zt)) ?_;rintro _ h14 n14 ⟨b14,rfl,bq14⟩ y14 x14;rcases bvs bq14 with ⟨rfl,q14⟩|⟨rfl,q14⟩
 ·refine zG ?_;refine sC (zhz _ (ix.t zt) (iy.t zt) hx hy hy0) ?_;rintro _ h15 n15 ⟨b15,a15,l15,c15,g15,d15,e15,f15,rfl,i15,r15,j15⟩ y15 x15;refine zG ?_;refine sA ?_;intro h16 p16 x16;refine sA ?_;intro h17 p17 x17;refine sS [.bool b15,.slice a15 l15 c15] ?_;intro h18 p18 o18;refine sS [.bool g15,.slice d15 e15 f15] ?_;intro h19 p19 o19;refine zG ?_;refine sS [.bool b15,.slice a15 l15 c15] ?_;intro h20 p20 o20;refine zq ?_;exact ⟨_,_,_,_,rfl,(i15.t zt)⟩
 refine zG ?_;refine sS [.bool sx,.slice ax lx cx] ?_;intro h21 p21 o21;refine zq ?_;exact ⟨_,_,_,_,rfl,(ix.t zt).as (by rw [q14,Int.tdiv_one])⟩
theorem gcdX (k:Nat){x:Int}{y:Int}(g:GG h n)(ix:IW h n sx ax lx cx x)(iy:IW h n sy ay ly cy y)(hx:x.natAbs<BW)(hy:y.natAbs<BW):CX (cal (k+8)) 117 [.agg #[.bool sx,.slice ax lx cx],.agg #[.bool sy,.slice ay ly cy]] h n (IV ((Nat.gcd x.natAbs y.natAbs:Nat):Int)):=by
 refine zk (fn:=Tryz.f117) R4 ?_;refine zG ?_;refine sB [.bool sx,.slice ax lx cx] ?_;intro h11 p11 x11;refine sB [.bool sy,.slice ay ly cy] ?_;intro h12 p12 x12;refine sA ?_;intro h13 p13 x13;refine zG ?_;refine sC (zlb _ (g.t zt) (ix.t zt).2 (iy.t zt).2 zhh) ?_;rintro _ h14 n14 ⟨a14,l14,c14,rfl,i14⟩ y14 x14;refine sT #[.bool false,.slice a14 l14 c14] ?_;refine sS [.bool false,.slice a14 l14 c14] ?_;intro h15 p15 o15;refine zq ?_;exact ⟨_,_,_,_,rfl,by rw [decide_eq_false];exact Int.not_lt.2 (Int.natCast_nonneg _),(i14.t zt)⟩
theorem zi2 (k:Nat){x:Int}{y:Int}(ix:IW h n sx ax lx cx x)(iy:IW h n sy ay ly cy y)(hx:x.natAbs<BW)(hy:y.natAbs<BW):VF (cal (k+4)) 243 [.agg #[.bool sx,.slice ax lx cx],.agg #[.bool sy,.slice ay ly cy]] h n fun v=>∃b:Bool,v=.bool b∧(b=true↔x=y):=by
 refine zw (fn:=Tryz.f243) R4 ?_;refine zG ?_;refine sB [.bool sx,.slice ax lx cx] ?_;intro h11 p11 x11;refine sB [.bool sy,.slice ay ly cy] ?_;intro h12 p12 x12;refine zG ?_;cases sx
 ·refine zG ?_;cases sy
  ·refine zG ?_;refine sC (zjj _ (ix.t zt).2 (iy.t zt).2 zhh) ?_;rintro _ h13 n13 ⟨s13,rfl,q13⟩ y13 x13;rcases q13 with ⟨rfl,q13⟩|⟨rfl,q13⟩|⟨rfl,q13⟩
   ·refine zf ?_;exact ⟨_,rfl,by have:=ix.ge;have:=iy.ge;simp only [reduceCtorEq,true_iff,false_iff];omega⟩
   ·refine zf ?_;exact ⟨_,rfl,by have:=ix.ge;have:=iy.ge;simp only [reduceCtorEq,true_iff,false_iff];omega⟩
   refine zf ?_;exact ⟨_,rfl,by have:=ix.ge;have:=iy.ge;simp only [reduceCtorEq,true_iff,false_iff];omega⟩
  refine zf ?_;exact ⟨_,rfl,by have:=ix.ge;have:=iy.lt;simp only [reduceCtorEq,true_iff,false_iff];omega⟩
 refine zG ?_;cases sy
 ·refine zf ?_;exact ⟨_,rfl,by have:=ix.lt;have:=iy.ge;simp only [reduceCtorEq,true_iff,false_iff];omega⟩
 refine zG ?_;refine sC (zjj _ (ix.t zt).2 (iy.t zt).2 zhh) ?_;rintro _ h14 n14 ⟨s14,rfl,q14⟩ y14 x14;rcases q14 with ⟨rfl,q14⟩|⟨rfl,q14⟩|⟨rfl,q14⟩
 ·refine zf ?_;exact ⟨_,rfl,by have:=ix.lt;have:=iy.lt;simp only [reduceCtorEq,true_iff,false_iff];omega⟩
 ·refine zf ?_;exact ⟨_,rfl,by have:=ix.lt;have:=iy.lt;simp only [reduceCtorEq,true_iff,false_iff];omega⟩
 refine zf ?_;exact ⟨_,rfl,by have:=ix.lt;have:=iy.lt;simp only [reduceCtorEq,true_iff,false_iff];omega⟩
end
def denZ (q:Rat):Int:=if q.den=1 then 0 else (q.den:Int)
theorem yw:denZ q=0↔q.den=1:=by
 unfold denZ;have:=q.den_pos;split<;>omega
theorem vm (h:¬denZ q=0):denZ q=(q.den:Int):=by
 unfold denZ at*
 split
 ·rename_i h1;rw [if_pos h1] at h;exact absurd rfl h
 rfl
theorem pU (x y:Rat):(x+y).num=(x.num*y.den+y.num*x.den)/((Nat.gcd (x.num*y.den+y.num*x.den).natAbs (x.den*y.den):Nat):Int):=by
 rw [Rat.add_def,Rat.normalize_eq]
theorem pV (x y:Rat):(x+y).den=(x.den*y.den)/Nat.gcd (x.num*y.den+y.num*x.den).natAbs (x.den*y.den):=by
 rw [Rat.add_def,Rat.normalize_eq]
theorem tV (x y:Rat):(x*y).num=(x.num*y.num)/((Nat.gcd (x.num*y.num).natAbs (x.den*y.den):Nat):Int):=by
 rw [Rat.mul_def,Rat.normalize_eq]
theorem tW (x y:Rat):(x*y).den=(x.den*y.den)/Nat.gcd (x.num*y.num).natAbs (x.den*y.den):=by
 rw [Rat.mul_def,Rat.normalize_eq]
theorem zg5 {x y:Rat}(hx:denZ x=0)(hy:denZ y=0):(x+y).num=x.num+y.num∧denZ (x+y)=0:=by
 rw [yw] at*
 have h1:=pU x y;have h2:=pV x y;rw [hx,hy] at h1 h2;simp at h1 h2;exact ⟨h1,h2⟩
structure AddS (x y:Rat)(d l r:Nat)(N:Int)(s:Nat):Prop where
 hd:d=Nat.gcd x.den y.den
 hl:y.den=d*l
 hr:x.den=d*r
 hN:N=x.num*l+y.num*r
 hs:s=Nat.gcd N.natAbs d
theorem zdf (a b:Nat):(a:Int).tdiv (b:Int)=((a/b:Nat):Int):=rfl
theorem zic (x y:Rat):(x*y).num=(x.num/((Nat.gcd x.num.natAbs y.den:Nat):Int))*(y.num/((Nat.gcd y.num.natAbs x.den:Nat):Int))∧(x*y).den=(x.den/Nat.gcd y.num.natAbs x.den)*(y.den/Nat.gcd x.num.natAbs y.den):=by
 have h1:=tV x y;have h2:=tW x y;have hg:Nat.gcd (x.num*y.num).natAbs (x.den*y.den)=Nat.gcd x.num.natAbs y.den*Nat.gcd y.num.natAbs x.den:=by
  rw [Int.natAbs_mul];by_cases hx:x.num=0
  ·have hxd:x.den=1:=by have:=x.reduced;rw [hx] at this;simpa using this
   rw [hx,hxd];simp
  by_cases hy:y.num=0
  ·have hyd:y.den=1:=by have:=y.reduced;rw [hy] at this;simpa using this
   rw [hy,hyd];simp
  have p1:0<Nat.gcd x.num.natAbs y.den:=Nat.gcd_pos_of_pos_right _ y.den_pos;have p2:0<Nat.gcd y.num.natAbs x.den:=Nat.gcd_pos_of_pos_right _ x.den_pos;have c1:=Nat.coprime_div_gcd_div_gcd p1;have c2:=Nat.coprime_div_gcd_div_gcd p2;have q1:=Nat.mul_div_cancel' (Nat.gcd_dvd_left x.num.natAbs y.den);have q2:=Nat.mul_div_cancel' (Nat.gcd_dvd_right x.num.natAbs y.den);have q3:=Nat.mul_div_cancel' (Nat.gcd_dvd_left y.num.natAbs x.den);have q4:=Nat.mul_div_cancel' (Nat.gcd_dvd_right y.num.natAbs x.den);have hx1:=x.reduced;have hy1:=y.reduced;generalize Nat.gcd x.num.natAbs y.den=g1 at*
  generalize Nat.gcd y.num.natAbs x.den=g2 at*
  generalize x.num.natAbs/g1=a at*
  generalize y.den/g1=b at*
  generalize y.num.natAbs/g2=c at*
  generalize x.den/g2=e at*
  rw [←q1,←q2,←q3,←q4];rw [←q1,←q4] at hx1;rw [←q3,←q2] at hy1;have cae:Nat.Coprime a e:=Nat.Coprime.coprime_dvd_left ⟨g1,Nat.mul_comm _ _⟩ (Nat.Coprime.coprime_dvd_right ⟨g2,Nat.mul_comm _ _⟩ hx1);have ccb:Nat.Coprime c b:=Nat.Coprime.coprime_dvd_left ⟨g2,Nat.mul_comm _ _⟩ (Nat.Coprime.coprime_dvd_right ⟨g1,Nat.mul_comm _ _⟩ hy1);have:Nat.Coprime (a*c) (e*b):=Nat.Coprime.mul_left (Nat.Coprime.mul_right cae c1) (Nat.Coprime.mul_right c2 ccb);rw [show g1*a*(g2*c)=(g1*g2)*(a*c) from by grind,show g2*e*(g1*b)=(g1*g2)*(e*b) from by grind,Nat.gcd_mul_left,this,Nat.mul_one]
 rw [hg] at h1 h2;have d1:((Nat.gcd x.num.natAbs y.den:Nat):Int)∣x.num:=Int.ofNat_dvd_left.2 (Nat.gcd_dvd_left _ _);have d2:((Nat.gcd y.num.natAbs x.den:Nat):Int)∣y.num:=Int.ofNat_dvd_left.2 (Nat.gcd_dvd_left _ _);have d3:Nat.gcd y.num.natAbs x.den∣x.den:=Nat.gcd_dvd_right _ _;have d4:Nat.gcd x.num.natAbs y.den∣y.den:=Nat.gcd_dvd_right _ _;refine ⟨?_,?_⟩
 ·rw [h1,Int.natCast_mul];obtain ⟨u,hu⟩:=d1;obtain ⟨v,hv⟩:=d2;have p1:0<Nat.gcd x.num.natAbs y.den:=Nat.gcd_pos_of_pos_right _ y.den_pos;have p2:0<Nat.gcd y.num.natAbs x.den:=Nat.gcd_pos_of_pos_right _ x.den_pos;generalize Nat.gcd x.num.natAbs y.den=g1 at*
  generalize Nat.gcd y.num.natAbs x.den=g2 at*
  rw [hu,hv,Int.mul_ediv_cancel_left _ zo,Int.mul_ediv_cancel_left _ zo,show (g1:Int)*u*(g2*v)=(g1*g2)*(u*v) from by grind,Int.mul_ediv_cancel_left];exact Int.mul_ne_zero zo zo
 rw [h2];obtain ⟨u,hu⟩:=d3;obtain ⟨v,hv⟩:=d4;have p1:0<Nat.gcd x.num.natAbs y.den:=Nat.gcd_pos_of_pos_right _ y.den_pos;have p2:0<Nat.gcd y.num.natAbs x.den:=Nat.gcd_pos_of_pos_right _ x.den_pos;generalize Nat.gcd x.num.natAbs y.den=g1 at*
 generalize Nat.gcd y.num.natAbs x.den=g2 at*
 rw [hu,hv,Nat.mul_div_cancel_left _ p2,Nat.mul_div_cancel_left _ p1,show g2*u*(g1*v)=(g1*g2)*(u*v) from by grind,Nat.mul_div_cancel_left _ (Nat.mul_pos p1 p2)]
section
variable {b cx cy fx fy gx gy lx ly m m' n:Nat}{q:Rat}{h:HF}{dx dy sx sy:Bool}{ax ay ex ey:Option Addr}
theorem wB {x y:Int}(h:x.natAbs<m):(x.tdiv y).natAbs<m:=by
 rw [Int.natAbs_tdiv];exact Nat.lt_of_le_of_lt (Nat.div_le_self _ _) h
theorem vk {x y:Int}{a:Nat}(hx:x.natAbs<2^a)(hy:y.natAbs<2^b):(x*y).natAbs<2^(a+b):=by
 rw [Int.natAbs_mul,Nat.pow_add];exact Nat.mul_lt_mul'' hx hy
theorem zak {x y:Int}{a:Nat}(hx:x.natAbs<2^a)(hy:y.natAbs<2^b)(h:a+b≤64):(x*y).natAbs<BW:=uK (vk hx hy) h
theorem ko {x y:Int}(hx:x.natAbs<2^m)(hy:y.natAbs<2^m):(x+y).natAbs<2^(m+1):=by
 rw [Nat.pow_succ];omega
theorem bT {x y u v:Int}{a:Nat}(hx:x.natAbs<2^a)(hy:y.natAbs<2^b)(hu:u.natAbs<2^b)(hv:v.natAbs<2^a)(h:a+b+1≤64):(x*y+u*v).natAbs<BW:=
 uK (ko (vk hx hy) (by rw [Nat.add_comm a b];exact vk hu hv)) h
theorem zhg {x y u:Int}{a:Nat}(hx:x.natAbs<2^a)(hy:y.natAbs<2^b)(hu:u.natAbs<2^b)(h:a+b+1≤64):(x*y+u).natAbs<BW:=
 uK (ko (vk hx hy) (Nat.lt_of_lt_of_le hu (Nat.pow_le_pow_right zd zo))) h
theorem zgn {x y:Int}(hx:x.natAbs<m)(h0:¬x=0):((Nat.gcd x.natAbs y.natAbs:Nat):Int).natAbs<m:=by
 rw [Int.natAbs_natCast];exact Nat.lt_of_le_of_lt (Nat.gcd_le_left _ zo) hx
theorem gc {x y:Int}(hy:y.natAbs<m)(h0:¬y=0):((Nat.gcd x.natAbs y.natAbs:Nat):Int).natAbs<m:=by
 rw [Int.natAbs_natCast];exact Nat.lt_of_le_of_lt (Nat.gcd_le_right _ zo) hy
theorem zla {x y:Int}(h:¬x=0):((Nat.gcd x.natAbs y.natAbs:Nat):Int)≠0:=by
 have:=Nat.gcd_pos_of_pos_left (n:=y.natAbs) (m:=x.natAbs) zo;omega
theorem ga {x y:Int}(h:¬y=0):((Nat.gcd x.natAbs y.natAbs:Nat):Int)≠0:=by
 have:=Nat.gcd_pos_of_pos_right (m:=x.natAbs) (n:=y.natAbs) zo;omega
theorem zk0:(1:Int).natAbs<BW:=uK (e:=1) zd zd
theorem szB {x:Int}(h:x.natAbs<BW:=by first|assumption|exact wB ‹_› |exact zak ‹_› ‹_› zo|exact zak ‹_› (wB ‹_›) zo|exact zak (wB ‹_›) (wB ‹_›) zo|exact bT ‹_› (wB ‹_›) ‹_› (wB ‹_›) zo|exact bT ‹_› ‹_› ‹_› ‹_› zo|exact zhg ‹_› ‹_› ‹_› zo|exact zgn ‹_› ‹_› |exact zgn (bT ‹_› (wB ‹_›) ‹_› (wB ‹_›) zo) ‹_› |exact gc ‹_› ‹_› |exact zk0):x.natAbs<BW:=h
theorem szN {x:Int}(h:x≠0:=by first|assumption|exact zla ‹_› |exact ga ‹_› |omega):x≠0:=h
def Sz (m:Nat)(q:Rat):Prop:=q.num.natAbs<2^m∧q.den<2^m
theorem Sz.z (h:Sz m q):(denZ q).natAbs<2^m:=by
 unfold denZ;split
 ·exact Nat.two_pow_pos m
 rw [Int.natAbs_natCast];exact h.2
theorem Sz.mono (h:Sz m q)(hm:m≤m'):Sz m' q:=⟨Nat.lt_of_lt_of_le h.1 (Nat.pow_le_pow_right zd hm),Nat.lt_of_lt_of_le h.2 (Nat.pow_le_pow_right zd hm)⟩
theorem oJ {x:Int}{g:Nat}(h:x.natAbs<m):(x/(g:Int)).natAbs<m:=by
 refine Nat.lt_of_le_of_lt ?_ h;exact Int.natAbs_ediv_le_natAbs _ _
theorem Sz.add {a:Nat}{x y:Rat}(hx:Sz a x)(hy:Sz b y):Sz (a+b+1) (x+y):=by
 refine ⟨?_,?_⟩
 ·rw [pU];refine oJ (ko (vk hx.1 (by rw [Int.natAbs_natCast];exact hy.2)) ?_);rw [Nat.add_comm a b];exact vk hy.1 (by rw [Int.natAbs_natCast];exact hx.2)
 rw [pV];refine Nat.lt_of_le_of_lt (Nat.div_le_self _ _) (Nat.lt_of_lt_of_le (Nat.mul_lt_mul'' hx.2 hy.2) ?_);rw [←Nat.pow_add];exact Nat.pow_le_pow_right zd zo
theorem Sz.mul {a:Nat}{x y:Rat}(hx:Sz a x)(hy:Sz b y):Sz (a+b) (x*y):=by
 refine ⟨?_,?_⟩
 ·rw [tV];exact oJ (vk hx.1 hy.1)
 rw [tW];refine Nat.lt_of_le_of_lt (Nat.div_le_self _ _) ?_;rw [Nat.pow_add];exact Nat.mul_lt_mul'' hx.2 hy.2
theorem Sz.neg {a:Nat}{x:Rat}(hx:Sz a x):Sz a (-x):=⟨by rw [Rat.neg_num,Int.natAbs_neg];exact hx.1,by rw [Rat.neg_den];exact hx.2⟩
theorem Sz.zero (a:Nat)(h:1≤a):Sz a 0:=⟨Nat.two_pow_pos a,Nat.lt_of_lt_of_le (by decide:(1:Nat)<2^1) (Nat.pow_le_pow_right zd h)⟩
def QV (q:Rat)(v:Value)(h:HF)(n:Nat):Prop:=∃b a l c d e f g,v=.agg #[.bool b,.slice a l c,.bool d,.slice e f g]∧IW h n b a l c q.num∧IW h n d e f g (denZ q)
theorem QV.zero (h:HF)(n:Nat):QV 0 (.agg #[.bool false,.slice none 0 0,.bool false,.slice none 0 0]) h n:=⟨_,_,_,_,_,_,_,_,rfl,IW.zero h n,IW.zero h n⟩
theorem zld (k:Nat)(h:HF)(n:Nat):CX (cal (k+1)) 184 [.int .u64 1] h n (WV 1):=zgp k h n (w:=1) zd
theorem zag (k:Nat)(h:HF)(n:Nat):CX (cal (k+2)) 161 [.int .i64 1] h n (IV 1):=by
 refine zk (fn:=Tryz.f161) R4 ?_;refine zG ?_;refine sA ?_;intro h11 p11 x11;refine zG ?_;refine wG R6 (ik:=.u64) (a:=1) rfl ?_;refine sC (zld _ _ _) ?_;rintro _ h12 n12 ⟨a12,l12,c12,rfl,i12⟩ y12 x12;refine sT #[.bool false,.slice a12 l12 c12] ?_;refine sS [.bool false,.slice a12 l12 c12] ?_;intro h13 p13 o13;refine zq ?_;exact ⟨_,_,_,_,rfl,rfl,(i12.t zt)⟩
theorem zel (k:Nat){x:Rat}(ix:IW h n sx ax lx cx x.num)(jx:IW h n dx ex fx gx (denZ x)):VF (cal (k+2)) 167 [.agg #[.bool sx,.slice ax lx cx,.bool dx,.slice ex fx gx]] h n fun v=>∃b:Bool,v=.bool b∧(b=true↔x=0):=by
 refine zw (fn:=Tryz.f167) R4 ?_;refine zG ?_;refine sB [.bool sx,.slice ax lx cx,.bool dx,.slice ex fx gx] ?_;intro h11 p11 x11;refine zG ?_;refine sC (xH _ (ix.t zt)) ?_;rintro _ h12 n12 ⟨b12,rfl,bq12⟩ y12 x12;rcases bvs bq12 with ⟨rfl,q12⟩|⟨rfl,q12⟩
 ·refine zf ?_;exact zno fun hq=>absurd (Rat.num_eq_zero.2 hq) q12
 refine zf ?_;exact zye (Rat.num_eq_zero.1 q12)
theorem zkf (k:Nat){x:Rat}(ix:IW h n sx ax lx cx x.num)(jx:IW h n dx ex fx gx (denZ x)):VF (cal (k+2)) 166 [.agg #[.bool sx,.slice ax lx cx,.bool dx,.slice ex fx gx]] h n fun v=>∃s:Int,v=.int .i64 s∧(s= -1∧x.num<0∨s=0∧x.num=0∨s=1∧0<x.num):=by
 refine zw (fn:=Tryz.f166) R4 ?_;refine zG ?_;refine sB [.bool sx,.slice ax lx cx,.bool dx,.slice ex fx gx] ?_;intro h11 p11 x11;refine zG ?_;refine sC (zhs _ (ix.t zt)) ?_;rintro _ h12 n12 ⟨s12,rfl,q12⟩ y12 x12;rcases q12 with ⟨rfl,q12⟩|⟨rfl,q12⟩|⟨rfl,q12⟩
 ·refine zf ?_;exact ⟨_,rfl,zo⟩
 ·refine zf ?_;exact ⟨_,rfl,zo⟩
 refine zf ?_;exact ⟨_,rfl,zo⟩
theorem sa (k:Nat){x:Rat}(ix:IW h n sx ax lx cx x.num)(jx:IW h n dx ex fx gx (denZ x)):CX (cal (k+2)) 167 [.agg #[.bool sx,.slice ax lx cx,.bool dx,.slice ex fx gx]] h n (BV (x=0)):=(zel k ix jx).cx
theorem zkg (k:Nat){x:Rat}(ix:IW h n sx ax lx cx x.num)(jx:IW h n dx ex fx gx (denZ x)):CX (cal (k+2)) 166 [.agg #[.bool sx,.slice ax lx cx,.bool dx,.slice ex fx gx]] h n (SV3 x.num):=(zkf k ix jx).cx
theorem denQ (k:Nat){x:Rat}(ix:IW h n sx ax lx cx x.num)(jx:IW h n dx ex fx gx (denZ x)):CX (cal (k+3)) 136 [.agg #[.bool sx,.slice ax lx cx,.bool dx,.slice ex fx gx]] h n (IV (x.den:Int)):=by
 refine zk (fn:=Tryz.f136) R4 ?_;refine zG ?_;refine sB [.bool sx,.slice ax lx cx,.bool dx,.slice ex fx gx] ?_;intro h11 p11 x11;refine sA ?_;intro h12 p12 x12;refine zG ?_;refine sC (xH _ (jx.t zt)) ?_;rintro _ h13 n13 ⟨b13,rfl,bq13⟩ y13 x13;rcases bvs bq13 with ⟨rfl,q13⟩|⟨rfl,q13⟩
 ·refine zG ?_;refine sS [.bool dx,.slice ex fx gx] ?_;intro h14 p14 o14;refine zq ?_;exact ⟨_,_,_,_,rfl,(jx.t zt).as (vm q13)⟩
 refine zG ?_;refine sC (zag _ _ _) ?_;rintro _ h15 n15 ⟨b15,a15,l15,c15,rfl,i15⟩ y15 x15;refine sS [.bool b15,.slice a15 l15 c15] ?_;intro h16 p16 o16;refine zq ?_;exact ⟨_,_,_,_,rfl,(i15.t zt).as (by rw [yw.1 q13];rfl)⟩
theorem uL (k:Nat){x:Int}{y:Int}(ix:IW h n sx ax lx cx x)(iy:IW h n sy ay ly cy y)(hN:q.num=x)(hD:(q.den:Int)=y):CX (cal (k+2)) 130 [.agg #[.bool sx,.slice ax lx cx],.agg #[.bool sy,.slice ay ly cy]] h n (QV q):=by
 refine zk (fn:=Tryz.f130) R4 ?_;refine zG ?_;refine sB [.bool sx,.slice ax lx cx] ?_;intro h11 p11 x11;refine sB [.bool sy,.slice ay ly cy] ?_;intro h12 p12 x12;refine sA ?_;intro h13 p13 x13;refine zG ?_;refine sC (rx _ (iy.t zt)) ?_;rintro _ h14 n14 ⟨b14,rfl,bq14⟩ y14 x14;rcases bvs bq14 with ⟨rfl,q14⟩|⟨rfl,q14⟩
 ·refine zG ?_;refine sT #[.bool sx,.slice ax lx cx,.bool sy,.slice ay ly cy] ?_;refine sS [.bool sx,.slice ax lx cx,.bool sy,.slice ay ly cy] ?_;intro h15 p15 o15;refine zq ?_;exact ⟨_,_,_,_,_,_,_,_,rfl,(ix.t zt).as (hN.symm),(iy.t zt).as (((vm (mt yw.1 (by have:=hD;omega))).trans hD).symm)⟩
 refine zG ?_;refine sT #[.bool sx,.slice ax lx cx,.bool false,.slice none 0 0] ?_;refine sS [.bool sx,.slice ax lx cx,.bool false,.slice none 0 0] ?_;intro h16 p16 o16;refine zq ?_;exact ⟨_,_,_,_,_,_,_,_,rfl,(ix.t zt).as (hN.symm),(IW.zero _ _).as ((yw.2 (by have:=hD;omega)).symm)⟩
theorem kj (k:Nat){x:Int}{y:Int}(g:GG h n)(ix:IW h n sx ax lx cx x)(iy:IW h n sy ay ly cy y)(hx:x.natAbs<BW)(hy:y.natAbs<BW)(hy0:¬y=0):CX (cal (k+9)) 135 [.agg #[.bool sx,.slice ax lx cx],.agg #[.bool sy,.slice ay ly cy]] h n fun v h' n'=>∃b a l c g d e f,v=.tuple #[.agg #[.bool b,.slice a l c],.agg #[.bool g,.slice d e f]]∧IW h' n' b a l c (x.tdiv ((Nat.gcd x.natAbs y.natAbs:Nat):Int))∧IW h' n' g d e f (y.tdiv ((Nat.gcd x.natAbs y.natAbs:Nat):Int)):=by
 refine zk (fn:=Tryz.f135) R4 ?_;refine zG ?_;refine sB [.bool sx,.slice ax lx cx] ?_;intro h11 p11 x11;refine sB [.bool sy,.slice ay ly cy] ?_;intro h12 p12 x12;refine sA ?_;intro h13 p13 x13;refine sA ?_;intro h14 p14 x14;refine zG ?_;refine sC (rx _ (iy.t zt)) ?_;rintro _ h15 n15 ⟨b15,rfl,bq15⟩ y15 x15;rcases bvs bq15 with ⟨rfl,q15⟩|⟨rfl,q15⟩
 ·refine zG ?_;refine sC (gcdX _ (g.t zt) (ix.t zt) (iy.t zt) szB szB) ?_;rintro _ h16 n16 ⟨b16,a16,l16,c16,rfl,i16⟩ y16 x16;refine sA ?_;intro h17 p17 x17;refine sS [.bool b16,.slice a16 l16 c16] ?_;intro h18 p18 o18;refine zG ?_;refine zl [0,0,3,0,0,31,63,127] rfl ?_;refine zH ?_;refine dC (quoX _ (ix.t zt) (i16.t zt) szB szB szN) ?_;rintro _ h19 n19 ⟨b19,a19,l19,c19,rfl,i19⟩ y19 x19;refine zH ?_;refine dC (quoX _ (iy.t zt) (i16.t zt) szB szB szN) ?_;rintro _ h20 n20 ⟨b20,a20,l20,c20,rfl,i20⟩ y20 x20;refine dS [.bool b19,.slice a19 l19 c19] ?_;intro h21 p21 o21;refine dS [.bool b20,.slice a20 l20 c20] ?_;intro h22 p22 o22;refine zq ?_;exact ⟨_,_,_,_,_,_,_,_,rfl,(i19.t zt),(i20.t zt)⟩
 refine zG ?_;refine zl [0,0,1,7] rfl ?_;refine zH ?_;refine dS [.bool sx,.slice ax lx cx] ?_;intro h23 p23 o23;refine dS [.bool sy,.slice ay ly cy] ?_;intro h24 p24 o24;refine zq ?_;exact ⟨_,_,_,_,_,_,_,_,rfl,(ix.t zt).as (by rw [q15];simp),(iy.t zt).as (by rw [q15];simp)⟩
theorem fw {x y:Rat}(hx:denZ x=0)(hy:denZ y=0):(x*y).num=x.num*y.num∧denZ (x*y)=0:=by
 rw [yw] at*
 have h1:=tV x y;have h2:=tW x y;rw [hx,hy] at h1 h2;simp at h1 h2;exact ⟨h1,h2⟩
theorem lk (x y:Rat):(x*y).num=(x.num.tdiv ((Nat.gcd x.num.natAbs ((y.den:Int)).natAbs:Nat):Int))*(y.num.tdiv ((Nat.gcd y.num.natAbs ((x.den:Int)).natAbs:Nat):Int))∧((x*y).den:Int)=((x.den:Int).tdiv ((Nat.gcd y.num.natAbs ((x.den:Int)).natAbs:Nat):Int))*((y.den:Int).tdiv ((Nat.gcd x.num.natAbs ((y.den:Int)).natAbs:Nat):Int)):=by
 simp only [Int.natAbs_natCast,zdf];have h:=zic x y;rw [Int.tdiv_eq_ediv_of_dvd (Int.ofNat_dvd_left.2 (Nat.gcd_dvd_left _ _)),Int.tdiv_eq_ediv_of_dvd (Int.ofNat_dvd_left.2 (Nat.gcd_dvd_left _ _))];refine ⟨h.1,?_⟩;rw [h.2,Int.natCast_mul]
theorem mulQ (k:Nat){x:Rat}{y:Rat}(g:GG h n)(ix:IW h n sx ax lx cx x.num)(jx:IW h n dx ex fx gx (denZ x))(iy:IW h n sy ay ly cy y.num)(jy:IW h n dy ey fy gy (denZ y)){a:Nat}(hx:Sz a x)(hy:Sz b y)(hab:a+b≤64):CX (cal (k+10)) 90 [.agg #[.bool sx,.slice ax lx cx,.bool dx,.slice ex fx gx],.agg #[.bool sy,.slice ay ly cy,.bool dy,.slice ey fy gy]] h n (QV (x*y)):=by
 obtain ⟨hxn,hxd⟩:x.num.natAbs<2^a∧(denZ x).natAbs<2^a:=⟨hx.1,hx.z⟩;obtain ⟨hyn,hyd⟩:y.num.natAbs<2^b∧(denZ y).natAbs<2^b:=⟨hy.1,hy.z⟩;have hxn1:=uK hxn zo;have hxd1:=uK hxd zo;have hyn1:=uK hyn zo;have hyd1:=uK hyd zo;have hxp:=x.den_pos;have hyp:=y.den_pos;have hxe:((x.den:Int)).natAbs<2^a:=hx.2;have hye:((y.den:Int)).natAbs<2^b:=hy.2;have hxe1:=uK hxe zo;have hye1:=uK hye zo;refine zk (fn:=Tryz.f90) R4 ?_;refine zG ?_;refine sB [.bool sx,.slice ax lx cx,.bool dx,.slice ex fx gx] ?_;intro h11 p11 x11;refine sB [.bool sy,.slice ay ly cy,.bool dy,.slice ey fy gy] ?_;intro h12 p12 x12;refine sA ?_;intro h13 p13 x13;refine zG ?_;refine sC (xH _ (ix.t zt)) ?_;rintro _ h14 n14 ⟨b14,rfl,bq14⟩ y14 x14;rcases bvs bq14 with ⟨rfl,q14⟩|⟨rfl,q14⟩
 ·refine zG ?_;refine sC (xH _ (iy.t zt)) ?_;rintro _ h15 n15 ⟨b15,rfl,bq15⟩ y15 x15;rcases bvs bq15 with ⟨rfl,q15⟩|⟨rfl,q15⟩
  ·refine zG ?_;refine sC (xH _ (jx.t zt)) ?_;rintro _ h16 n16 ⟨b16,rfl,bq16⟩ y16 x16;rcases bvs bq16 with ⟨rfl,q16⟩|⟨rfl,q16⟩
   ·refine zG ?_;refine zl [0,1,0,4,15,31,63,63,0,0,895,2047] rfl ?_;refine zH ?_;refine dC (denQ _ (iy.t zt) (jy.t zt)) ?_;rintro _ h17 n17 ⟨b17,a17,l17,c17,rfl,i17⟩ y17 x17;refine dC (kj _ (g.t zt) (ix.t zt) i17 szB szB zo) ?_;rintro _ h18 n18 ⟨b18,a18,l18,c18,g18,d18,e18,f18,rfl,i18,j18⟩ y18 x18;refine zH ?_;refine dB [.bool false,.slice none 0 0] ?_;intro h19 p19 x19;refine dB [.bool false,.slice none 0 0] ?_;intro h20 p20 x20;refine dS [.bool b18,.slice a18 l18 c18] ?_;intro h21 p21 o21;refine dS [.bool g18,.slice d18 e18 f18] ?_;intro h22 p22 o22;refine zG ?_;refine zl [0,1,0,4,15,31,63,63,0,0,895,2047] rfl ?_;refine zH ?_;refine dC (denQ _ (ix.t zt) (jx.t zt)) ?_;rintro _ h23 n23 ⟨b23,a23,l23,c23,rfl,i23⟩ y23 x23;refine dC (kj _ (g.t zt) (iy.t zt) i23 szB szB zo) ?_;rintro _ h24 n24 ⟨b24,a24,l24,c24,g24,d24,e24,f24,rfl,i24,j24⟩ y24 x24;refine zH ?_;refine dB [.bool false,.slice none 0 0] ?_;intro h25 p25 x25;refine dB [.bool false,.slice none 0 0] ?_;intro h26 p26 x26;refine dS [.bool b24,.slice a24 l24 c24] ?_;intro h27 p27 o27;refine dS [.bool g24,.slice d24 e24 f24] ?_;intro h28 p28 o28;refine zG ?_;refine zl [0,0,3,0,0,31,63,127] rfl ?_;refine zH ?_;refine dC (mulX _ (i18.t zt) (i24.t zt) szB szB) ?_;rintro _ h29 n29 ⟨b29,a29,l29,c29,rfl,i29⟩ y29 x29;refine zH ?_;refine dC (mulX _ (j24.t zt) (j18.t zt) szB szB) ?_;rintro _ h30 n30 ⟨b30,a30,l30,c30,rfl,i30⟩ y30 x30;refine dC (uL _ (i29.t zt) i30 (lk x y).1 (lk x y).2) ?_;rintro _ h31 n31 ⟨b31,a31,l31,c31,d31,e31,f31,g31,rfl,i31,j31⟩ y31 x31;refine dS [.bool b31,.slice a31 l31 c31,.bool d31,.slice e31 f31 g31] ?_;intro h32 p32 o32;refine zq ?_;exact ⟨_,_,_,_,_,_,_,_,rfl,(i31.t zt),(j31.t zt)⟩
   refine zG ?_;refine sC (xH _ (jy.t zt)) ?_;rintro _ h33 n33 ⟨b33,rfl,bq33⟩ y33 x33;rcases bvs bq33 with ⟨rfl,q33⟩|⟨rfl,q33⟩
   ·refine zG ?_;refine zl [0,1,0,4,15,31,63,63,0,0,895,2047] rfl ?_;refine zH ?_;refine dC (denQ _ (iy.t zt) (jy.t zt)) ?_;rintro _ h34 n34 ⟨b34,a34,l34,c34,rfl,i34⟩ y34 x34;refine dC (kj _ (g.t zt) (ix.t zt) i34 szB szB zo) ?_;rintro _ h35 n35 ⟨b35,a35,l35,c35,g35,d35,e35,f35,rfl,i35,j35⟩ y35 x35;refine zH ?_;refine dB [.bool false,.slice none 0 0] ?_;intro h36 p36 x36;refine dB [.bool false,.slice none 0 0] ?_;intro h37 p37 x37;refine dS [.bool b35,.slice a35 l35 c35] ?_;intro h38 p38 o38;refine dS [.bool g35,.slice d35 e35 f35] ?_;intro h39 p39 o39;refine zG ?_;refine zl [0,1,0,4,15,31,63,63,0,0,895,2047] rfl ?_;refine zH ?_;refine dC (denQ _ (ix.t zt) (jx.t zt)) ?_;rintro _ h40 n40 ⟨b40,a40,l40,c40,rfl,i40⟩ y40 x40;refine dC (kj _ (g.t zt) (iy.t zt) i40 szB szB zo) ?_;rintro _ h41 n41 ⟨b41,a41,l41,c41,g41,d41,e41,f41,rfl,i41,j41⟩ y41 x41;refine zH ?_;refine dB [.bool false,.slice none 0 0] ?_;intro h42 p42 x42;refine dB [.bool false,.slice none 0 0] ?_;intro h43 p43 x43;refine dS [.bool b41,.slice a41 l41 c41] ?_;intro h44 p44 o44;refine dS [.bool g41,.slice d41 e41 f41] ?_;intro h45 p45 o45;refine zG ?_;refine zl [0,0,3,0,0,31,63,127] rfl ?_;refine zH ?_;refine dC (mulX _ (i35.t zt) (i41.t zt) szB szB) ?_;rintro _ h46 n46 ⟨b46,a46,l46,c46,rfl,i46⟩ y46 x46;refine zH ?_;refine dC (mulX _ (j41.t zt) (j35.t zt) szB szB) ?_;rintro _ h47 n47 ⟨b47,a47,l47,c47,rfl,i47⟩ y47 x47;refine dC (uL _ (i46.t zt) i47 (lk x y).1 (lk x y).2) ?_;rintro _ h48 n48 ⟨b48,a48,l48,c48,d48,e48,f48,g48,rfl,i48,j48⟩ y48 x48;refine dS [.bool b48,.slice a48 l48 c48,.bool d48,.slice e48 f48 g48] ?_;intro h49 p49 o49;refine zq ?_;exact ⟨_,_,_,_,_,_,_,_,rfl,(i48.t zt),(j48.t zt)⟩
   refine zG ?_;refine sC (mulX _ (ix.t zt) (iy.t zt) szB szB) ?_;rintro _ h50 n50 ⟨b50,a50,l50,c50,rfl,i50⟩ y50 x50;refine sT #[.bool b50,.slice a50 l50 c50,.bool false,.slice none 0 0] ?_;refine sS [.bool b50,.slice a50 l50 c50,.bool false,.slice none 0 0] ?_;intro h51 p51 o51;refine zq ?_;exact ⟨_,_,_,_,_,_,_,_,rfl,(i50.t zt).as ((fw q16 q33).1.symm),(IW.zero _ _).as ((fw q16 q33).2.symm)⟩
  refine zG ?_;refine sT #[.bool false,.slice none 0 0,.bool false,.slice none 0 0] ?_;refine sS [.bool false,.slice none 0 0,.bool false,.slice none 0 0] ?_;intro h52 p52 o52;refine zq ?_;exact (show x*y=0 from by rw [Rat.num_eq_zero.1 q15,Rat.mul_zero])▸QV.zero _ _
 refine zG ?_;refine sT #[.bool false,.slice none 0 0,.bool false,.slice none 0 0] ?_;refine sS [.bool false,.slice none 0 0,.bool false,.slice none 0 0] ?_;intro h53 p53 o53;refine zq ?_;exact (show x*y=0 from by rw [Rat.num_eq_zero.1 q14,Rat.zero_mul])▸QV.zero _ _
end
section
variable {S:List (List UInt8)}{h:HF}{cap len n:Nat}{a:Option Addr}
theorem vi (hs:Sl h n 1 (.slice a len cap) (strs S)):len=S.length:=by
 obtain ⟨a',len',cap',e,hl⟩:=hs.len;injection e with e1 e2 e3
 rw [mJ] at hl;omega
theorem aJ (m:Nat)(l:List Value):(rep m l).length=m*l.length:=by
 induction m with
 |zero=>simp [rep]
 |succ m ih=>rw [rep,List.length_append,ih,Nat.succ_mul];omega
theorem zh6 (k:Nat)(hs:Sl h n 1 (.slice a len cap) (strs S))(hl:∀s∈S,s.length<11)(hb:S.length<1000000):
  CF (cal (k+7)) 16 [.slice a len cap] h n fun v h' n' w=>w=[]∧n≤n'∧Ext n h h'∧∃a' l' c' ok,v=.tuple #[.slice a' l' c',.bool ok]∧(ok=true↔∀s∈S,xz s):=by
 refine zk (fn:=Tryz.f16) R4 ?_;have e1:=vi hs;subst e1;refine zN ?_;refine sh ?_;repeat refine zR ?_
 refine wE R9 zo ?_;refine sh ?_;refine sh ?_;generalize hh:upd h (3*n+2) _=h1;have hr1:∃cs e,h1 (3*n+2)=some (.row cs e)∧cs.length=S.length*4:=⟨_,_,by rw [←hh,ze],by rw [aJ];rfl⟩;have hx1:Ext n h h1:=by rw [←hh];exact Ext.upd zo
 clear hh;refine zQ (α:=Nat) (fun z=>[(0,.slice a S.length cap),(4,.slice (some ⟨3*n+2,0,none⟩) S.length S.length),(5,.int .i64 (z:Int))])
  (fun z h' n' w'=>w'=[]∧n+1≤n'∧Ext n h h'∧(∃cs e,h' (3*n+2)=some (.row cs e)∧cs.length=S.length*4)∧z≤S.length∧∀s∈S.take z,xz s) (fun z=>S.length-z)
  0 ⟨rfl,rfl,rfl,trivial⟩ ⟨rfl,Nat.le_refl _,hx1,hr1,Nat.zero_le _,fun s hs=>absurd hs (by simp)⟩ (by show S.length-0<LL;unfold LL;omega) ?_
 rintro z t h2 n2 _ ⟨rfl,hn2,hx2,⟨cs,e2,hr2,hcs⟩,hz,hall⟩;refine zN ?_;by_cases hze:z=S.length
 ·refine sh ?_;refine Za ?_;refine sh ?_;refine retH [.slice (some ⟨3*n+2,0,none⟩) S.length S.length,.bool true] R3 ⟨rfl,by show n≤n2;omega,hx2,_,_,_,_,rfl,fun _=>?_,fun _=>rfl⟩;rw [hze,List.take_length] at hall;exact hall
 obtain ⟨s,hsz⟩:∃s,S[z]?=some s:=⟨S[z]'zo,List.getElem?_eq_getElem zo⟩;have hmem:s∈S:=List.mem_of_getElem? hsz;refine sh ?_;refine Zb ?_;refine Zc ?_;refine xi (f:=fun s=>Value.string ⟨⟨s⟩⟩) (j:=z) (dv:=s) R7 (hs.ext hx2 (show n≤n2 by omega)) R2 hsz (fun _=>rfl) R4 fun _=>?_;refine zu _ R5 (iz k _ _ s (hl s hmem)) ?_;rintro _ h3 n3 _ ⟨rfl,hn3,hx3,u1,u2,v1,v2,q,ln,ld,ok,rfl,rq,hl1,hl2,f1,f2,hok1,hok2⟩;repeat refine zR ?_
 refine zT R5 ?_;refine zv [u1,u2,v1,v2] R7 rq.ones (ze _ _ _) rfl (by show 3*n≤_;omega) ?_;rw [yH];generalize hh:upd h3 (3*n3+2) _=h4;have hx4:Ext n3 h3 h4:=by rw [←hh];exact Ext.upd zo
 have hp6:∃e,h4 (3*n3+2)=some (.row [u1,u2,v1,v2] e):=⟨_,by rw [←hh,ze]⟩;clear hh;obtain ⟨e6,hp6⟩:=hp6;have hr4:h4 (3*n+2)=_:=(hx4 _ zo).trans ((hx3 _ zo).trans hr2);have hx14:Ext n h h4:=fun b hb=>(hx4 b zo).trans ((hx3 b zo).trans (hx2 b hb));refine sh ?_;cases ok with
 |false=>
  refine sh ?_;refine Zb ?_;refine sh ?_;exact retH [.slice none 0 0,.bool false] R3 ⟨rfl,by show n≤n3+1;omega,hx14,_,_,_,_,rfl,fun h=>absurd h (by simp),fun h=>hok2 (h s hmem)⟩
 |true=>
 refine sh ?_;refine Za ?_;repeat refine zR ?_
 refine zI (v:=.agg #[u1,u2,v1,v2]) R5 (zB R2 hp6 rfl zb rfl) ?_;refine yR R8 zo ?_;refine yB (cs:=[u1,u2,v1,v2]) ⟨rfl,rfl,rfl,rfl,rfl,rfl,rfl,rq.ones⟩ hr4 (by rw [hcs];omega) (by show 3*n≤_;omega) ?_;refine zN ?_;refine sh ?_;refine goOn (z+1) (by show S.length-(z+1)<S.length-z;omega) ⟨rfl,rfl,by show Value.int .i64 _=Value.int .i64 _;congr 1,trivial⟩ ⟨rfl,by show n+1≤n3+1;omega,fun b hb=>(zj zo).trans (hx14 b hb),⟨_,_,ze _ _ _,?_⟩,by show z+1≤S.length;omega,?_⟩
 ·unfold zn;simp only [List.length_append,List.length_take,List.length_drop,hcs,List.length_cons,List.length_nil];omega
 intro s' hs';rw [List.take_succ_eq_append_getElem zo] at hs';rcases List.mem_append.1 hs' with h'|h'
 ·exact hall s' h'
 rw [List.mem_singleton.1 h'];obtain ⟨p1,p2⟩:=List.getElem?_eq_some_iff.1 hsz;rw [p2];exact ⟨q,hok1 rfl⟩
end
section
variable {b l m n':Nat}{h':HF}{a:Option Addr}{cs:List Value}{e:TypeId}{d1 d2 n1 n2 v:Value}{q:Rat}{ld ln w:List Nat}
def BX:Nat:=4294967296
theorem wO {e:Nat}(h:m<2^e)(he:e≤32):m<BX:=Nat.lt_of_lt_of_le h (show 2^e≤2^32 from Nat.pow_le_pow_right zd he)
theorem zgh {x y:Int}{a:Nat}(hx:x.natAbs<2^a)(hy:y.natAbs<2^b)(h:a+b≤32):(x*y).natAbs<BX:=wO (vk hx hy) h
theorem zkb {x y u v:Int}{a:Nat}(hx:x.natAbs<2^a)(hy:y.natAbs<2^b)(hu:u.natAbs<2^b)(hv:v.natAbs<2^a)(h:a+b+1≤32):(x*y+u*v).natAbs<BX:=
 wO (ko (vk hx hy) (by rw [Nat.add_comm a b];exact vk hu hv)) h
theorem szU {x:Int}(h:x.natAbs<BX:=by first|assumption|exact zgh ‹_› ‹_› zo|exact zkb ‹_› ‹_› ‹_› ‹_› zo|exact wO (e:=1) zd zd):x.natAbs<BX:=h
def UW (h:HF)(n:Nat)(a:Option Addr)(l c m:Nat):Prop:=∃L,Sl h n 1 (.slice a l c) (u32s L)∧Norm L∧val L=m
theorem UW.ext {h:HF}{n:Nat}{c:Nat}(i:UW h n a l c m)(e:Ext n h h')(hn:n≤n'):UW h' n' a l c m:=by
 obtain ⟨L,h1,h2,h3⟩:=i;exact ⟨L,h1.ext e hn,h2,h3⟩
theorem UW.only {h:HF}{n bb:Nat}{c:Nat}(i:UW h n a l c m)(hp:h bb=some (.row cs e))(hu:cs.all nu=true)(ho:Only bb h h'):UW h' n a l c m:=by
 obtain ⟨L,h1,h2,h3⟩:=i;exact ⟨L,h1.only32 hp hu ho,h2,h3⟩
theorem UW.t {h:HF}{n:Nat}{c:Nat}(i:UW h n a l c m)(t:Tr n h n' h'):UW h' n' a l c m:=by
 obtain ⟨L,h1,h2,h3⟩:=i;exact ⟨L,h1.trG (fun x hx=>by obtain ⟨d,_,rfl⟩:=List.mem_map.1 hx;rfl) t,h2,h3⟩
theorem UW.zero {h:HF}{n:Nat}{c:Nat}(i:UW h n a l c m):l=0↔m=0:=by
 obtain ⟨L,h1,h2,h3⟩:=i;have e:=h1.lenU;rw [←h3,h2.zero,←List.length_eq_zero_iff,e]
theorem UW.nil (h:HF)(n:Nat):UW h n none 0 0 0:=⟨[],.nil (.inl rfl),Norm.nil,rfl⟩
def UI (h:HF)(n:Nat)(b:Bool)(a:Option Addr)(l c:Nat)(x:Int):Prop:=b=decide (x<0)∧UW h n a l c x.natAbs
theorem UI.ext {h:HF}{n:Nat}{b:Bool}{c:Nat}{x:Int}(i:UI h n b a l c x)(e:Ext n h h')(hn:n≤n'):UI h' n' b a l c x:=⟨i.1,i.2.ext e hn⟩
theorem UI.only {h:HF}{n bb:Nat}{b:Bool}{c:Nat}{x:Int}(i:UI h n b a l c x)(hp:h bb=some (.row cs e))(hu:cs.all nu=true)(ho:Only bb h h'):UI h' n b a l c x:=⟨i.1,i.2.only hp hu ho⟩
theorem UI.t {h:HF}{n:Nat}{b:Bool}{c:Nat}{x:Int}(i:UI h n b a l c x)(t:Tr n h n' h'):UI h' n' b a l c x:=⟨i.1,i.2.t t⟩
theorem UI.x {h:HF}{n:Nat}{b:Bool}{c:Nat}{x:Int}(i:UI h n b a l c x)(t:Tx n h n' h'):UI h' n' b a l c x:=i.ext t.2 t.1
theorem UI.as {h:HF}{n:Nat}{b:Bool}{c:Nat}{x y:Int}(i:UI h n b a l c x)(e:x=y):UI h n b a l c y:=e▸i
theorem UI.lt {h:HF}{n:Nat}{c:Nat}{x:Int}(i:UI h n true a l c x):x<0:=of_decide_eq_true i.1.symm
theorem UI.ge {h:HF}{n:Nat}{c:Nat}{x:Int}(i:UI h n false a l c x):0≤x:=Int.not_lt.1 (of_decide_eq_false i.1.symm)
theorem UI.zero (h:HF)(n:Nat):UI h n false none 0 0 0:=⟨rfl,UW.nil h n⟩
def UV (m:Nat)(v:Value)(h:HF)(n:Nat):Prop:=∃a l c,v=.slice a l c∧UW h n a l c m
def UIV (x:Int)(v:Value)(h:HF)(n:Nat):Prop:=∃b a l c,v=.agg #[.bool b,.slice a l c]∧UI h n b a l c x
def NQ (q:Rat)(v:Value)(h:HF)(n:Nat):Prop:=∃b a l c d e f g,v=.agg #[.bool b,.slice a l c,.bool d,.slice e f g]∧UI h n b a l c q.num∧UI h n d e f g (denZ q)
theorem NQ.zero (h:HF)(n:Nat):NQ 0 (.agg #[.bool false,.slice none 0 0,.bool false,.slice none 0 0]) h n:=⟨_,_,_,_,_,_,_,_,rfl,UI.zero h n,UI.zero h n⟩
theorem Norm.len800 {L:List Nat}(h:Norm L)(hb:val L<BX):L.length≤1:=by
 exact (show Norm [4294967295] from ⟨fun x hx=>by simp at hx;omega,rfl⟩).len_le h (by show val L≤4294967295;unfold BX at hb;omega)
theorem UI.r {h:HF}{n:Nat}{b:Bool}{c:Nat}{x:Int}(i:UI h n b a l c x):∃L,IntR h n (.bool b) (.slice a l c) x L:=by
 obtain ⟨e,L,h1,h2,h3⟩:=i;exact ⟨L,by rw [e],h1,h2,h3⟩
theorem IntR.ui {h:HF}{n:Nat}{c1 c2:Value}{x:Int}{L:List Nat}(i:IntR h n c1 c2 x L):∃b a l c,c1=.bool b∧c2=.slice a l c∧UI h n b a l c x:=by
 obtain ⟨rfl,hs,hn,hv⟩:=i;obtain ⟨a,l,c,rfl,_⟩:=hs.len;exact ⟨_,_,_,_,rfl,rfl,rfl,L,hs,hn,hv⟩
theorem RatR.nq {h:HF}{n:Nat}(r:RatR h n n1 n2 d1 d2 q ln ld):NQ q (.agg #[n1,n2,d1,d2]) h n:=by
 obtain ⟨b,a,l,c,rfl,rfl,i⟩:=r.num.ui;obtain ⟨_,rfl,hs,hn,hv⟩:=r;obtain ⟨a',l',c',rfl,_⟩:=hs.len;refine ⟨_,_,_,_,_,_,_,_,rfl,i,?_,ld,hs,hn,?_⟩
 ·unfold denZ;split<;>simp
 rw [hv];unfold denZ;split<;>simp
theorem NQ.r {h:HF}{n:Nat}{b d:Bool}{e:Option Addr}{c f g:Nat}(i:UI h n b a l c q.num)(j:UI h n d e f g (denZ q)):∃ln ld,RatR h n (.bool b) (.slice a l c) (.bool d) (.slice e f g) q ln ld∧(∀m,Sz m q→m≤32→ln.length≤1∧ld.length≤1):=by
 obtain ⟨ln,hi⟩:=i.r;obtain ⟨e2,ld,h1,h2,h3⟩:=j;refine ⟨ln,ld,⟨hi,?_,h1,h2,?_⟩,fun m hm hl=>⟨hi.norm.len800 (by rw [hi.val];exact wO hm.1 hl),h2.len800 (by rw [h3];exact wO hm.z hl)⟩⟩
 ·rw [e2];unfold denZ;split<;>simp
 rw [h3];unfold denZ;split<;>simp
theorem NewU.uv {n:Nat}{h:HF}{L:List Nat}(r:NewU n h v h' n' w L)(e:val L=m):Gw n h (UV m) v h' n' w:=by
 obtain ⟨h1,h2,h3,a,c,rfl,h4,h5,_⟩:=r;exact ⟨h1,h2,h3,_,_,_,rfl,L,h4,h5,e⟩
theorem uC (k:Nat){h:HF}{n:Nat}{c:Nat}(i:UW h n a l c m)(neg:Bool):CX (cal (k+1)) 95 [.bool neg,.slice a l c] h n (UIV (sgZ neg m)):=by
 refine yh (wW k h n neg a l c) ?_;rintro _ h' n' _ ⟨rfl,rfl,rfl,hx⟩;refine ⟨rfl,Nat.le_succ _,hx,_,_,_,_,rfl,?_,?_⟩
 ·rw [ap];have:=i.zero;congr 1;by_cases h0:0<l
  ·rw [decide_eq_true h0,decide_eq_true zo]
  rw [decide_eq_false h0,decide_eq_false zo]
 rw [au];exact i.ext hx zs
section
variable (k:Nat){h:HF}{n:Nat}{a1 a2:Option Addr}{l1 c1 l2 c2 x y:Nat}
theorem zly (i:UW h n a1 l1 c1 x)(j:UW h n a2 l2 c2 y)(hb:x<BX∧y<BX):CX (cal (k+2)) 110 [.slice a1 l1 c1,.slice a2 l2 c2] h n (UV (x+y)):=by
 obtain ⟨A,hA,nA,rfl⟩:=i;obtain ⟨C,hC,nC,rfl⟩:=j;have:=nA.len800 hb.1;have:=nC.len800 hb.2;refine yh (jJ k hA hC nA.1 nC.1 zo) ?_;rintro v h' n' w ⟨L,r,e⟩;exact r.uv e
theorem eM (i:UW h n a1 l1 c1 x)(j:UW h n a2 l2 c2 y)(hb:x<BX∧y<BX)(hle:y≤x):CX (cal (k+2)) 112 [.slice a1 l1 c1,.slice a2 l2 c2] h n (UV (x-y)):=by
 obtain ⟨A,hA,nA,rfl⟩:=i;obtain ⟨C,hC,nC,rfl⟩:=j;have:=nA.len800 hb.1;refine yh (bU k hA hC nA.1 nC.1 zo (nA.len_le nC hle) hle) ?_;rintro v h' n' w ⟨L,r,e⟩;exact r.uv e
theorem zd8 (i:UW h n a1 l1 c1 x)(j:UW h n a2 l2 c2 y)(hb:x<BX∧y<BX):CX (cal (k+2)) 105 [.slice a1 l1 c1,.slice a2 l2 c2] h n (UV (x*y)):=by
 obtain ⟨A,hA,nA,rfl⟩:=i;obtain ⟨C,hC,nC,rfl⟩:=j;have:=nA.len800 hb.1;have:=nC.len800 hb.2;refine yh (jd k hA hC nA.1 nC.1 zo) ?_;rintro v h' n' w ⟨L,r,e⟩;exact r.uv e
theorem zlr (i:UW h n a1 l1 c1 x)(j:UW h n a2 l2 c2 y)(hb:x<BX∧y<BX):CX (cal (k+1)) 111 [.slice a1 l1 c1,.slice a2 l2 c2] h n (SV3 ((x:Int)-y)):=by
 obtain ⟨A,hA,nA,rfl⟩:=i;obtain ⟨C,hC,nC,rfl⟩:=j;have:=nA.len800 hb.1;refine (jE k hA hC nA nC zo).cx.mono ?_;rintro _ _ _ rfl;refine ⟨_,rfl,?_⟩;rcases Nat.lt_trichotomy (val A) (val C) with h|h|h
 ·exact .inl ⟨vn h,zo⟩
 ·exact .inr (.inl ⟨by rw [h];exact oV _,zo⟩)
 exact .inr (.inr ⟨uA h,zo⟩)
theorem zbb (h:HF)(n:Nat):CX (cal (k+2)) 73 [.int .i64 1] h n (UIV 1):=by
 refine yh (ql k h n 1 zd) ?_;rintro _ h' n' w ⟨h1,h2,h3,c1,c2,L,rfl,r,_⟩;obtain ⟨b,a,l,c,rfl,rfl,i⟩:=r.ui;exact ⟨h1,h2,h3,_,_,_,_,rfl,i⟩
end
theorem zmm (k:Nat){h:HF}{n:Nat}{b:Bool}{c:Nat}{x:Int}(i:UI h n b a l c x):CX (cal (k+2)) 104 [.agg #[.bool b,.slice a l c]] h n (UIV (-x)):=by
 obtain ⟨L,r⟩:=i.r;refine yh (zai k r) ?_;rintro _ h' n' w ⟨h1,h2,h3,c1,rfl,r⟩;obtain ⟨b,a,l,c,rfl,e,i⟩:=r.ui;cases e;exact ⟨h1,h2,h3,_,_,_,_,rfl,i⟩
theorem mg (k:Nat){h:HF}{n:Nat}{b1 b2:Bool}{a1 a2:Option Addr}{l1 c1 l2 c2:Nat}{x y:Int}(i:UI h n b1 a1 l1 c1 x)(j:UI h n b2 a2 l2 c2 y)(hx:x.natAbs<BX)(hy:y.natAbs<BX)(hy0:y≠0)(hq:Rat.divInt x y=q):CX (cal (k+5)) 71 [.agg #[.bool b1,.slice a1 l1 c1],.agg #[.bool b2,.slice a2 l2 c2]] h n (NQ q):=by
 obtain ⟨A,r⟩:=i.r;obtain ⟨C,s⟩:=j.r;have:=r.norm.len800 (by rw [r.val];exact hx);have:=s.norm.len800 (by rw [s.val];exact hy);refine yh (zbc k r s hy0 zo) ?_;rintro _ h' n' w ⟨h1,h2,h3,u1,u2,e1,e2,ln,ld,rfl,r,_⟩;rw [hq] at r;exact ⟨h1,h2,h3,r.nq⟩
theorem rT (k:Nat){h:HF}{n:Nat}{b d:Bool}{e:Option Addr}{c f g:Nat}(i:UI h n b a l c q.num)(j:UI h n d e f g (denZ q)):CX (cal (k+2)) 31 [.agg #[.bool b,.slice a l c,.bool d,.slice e f g]] h n (SV3 q.num):=by
 obtain ⟨ln,ld,r,_⟩:=NQ.r i j;refine (mU k r).cx.mono ?_;rintro _ _ _ rfl;refine ⟨_,rfl,?_⟩;rcases Int.lt_trichotomy q.num 0 with h|h|h
 ·exact .inl ⟨Int.sign_eq_neg_one_of_neg h,h⟩
 ·exact .inr (.inl ⟨by rw [h];rfl,h⟩)
 exact .inr (.inr ⟨Int.sign_eq_one_of_pos h,h⟩)
theorem zf2 (k:Nat){h:HF}{n:Nat}{b d:Bool}{e:Option Addr}{c f g:Nat}(i:UI h n b a l c q.num)(j:UI h n d e f g (denZ q))(hm:Sz m q)(hb:m≤32):VF (cal (k+4)) 21 [.agg #[.bool b,.slice a l c,.bool d,.slice e f g]] h n fun v=>v=.string ⟨⟨ratT q⟩⟩:=by
 obtain ⟨ln,ld,r,hl⟩:=NQ.r i j;have:=hl m hm hb;exact pB k r zo
theorem zf9 (k:Nat)(h:HF)(n:Nat)(s:List UInt8)(hs:s.length<11):CX (cal (k+6)) 52 [.string ⟨⟨s⟩⟩] h n fun v h' n'=>∃b a l c d e f g ok,∃q:Rat,v=.tuple #[.agg #[.bool b,.slice a l c,.bool d,.slice e f g],.bool ok]∧UI h' n' b a l c q.num∧UI h' n' d e f g (denZ q)∧(ok=true→ratT q=s)∧(xz s→ok=true):=by
 refine yh (iz k h n s hs) ?_;rintro _ h' n' w ⟨h1,h2,h3,n1,n2,d1,d2,q,ln,ld,ok,rfl,r,_,_,_,_,h4,h5⟩;obtain ⟨b,a,l,c,d,e,f,g,e1,i,j⟩:=r.nq;injection e1 with e1
 injection e1 with e1
 injection e1 with e2 e1
 injection e1 with e3 e1
 injection e1 with e4 e1
 injection e1 with e5 _
 subst e2 e3 e4 e5;exact ⟨h1,h2,h3,_,_,_,_,_,_,_,_,ok,q,rfl,i,j,h4,h5⟩
end
end Go.Proofs.YtfajmfoofmienaaGreatDoor
namespace Go.Proofs.YtfajmfoofmienaaGreatDoor
variable {s:List UInt8}{V b:Nat}
def dig (b:UInt8):Bool:=decide (48≤b.toNat∧b.toNat≤57)
theorem oN {b:UInt8}:dig b=true↔48≤b.toNat∧b.toNat≤57:=by unfold dig;simp
theorem AllD.all:AllD s↔∀b∈s,dig b=true:=by
 unfold AllD;constructor
 ·exact fun h b hb=>oN.2 (h b hb)
 exact fun h b hb=>oN.1 (h b hb)
theorem vZ {p:UInt8→Bool}:∀b∈s.takeWhile p,p b=true:=by
 induction s with
 |nil=>intro b hb;simp at hb
 |cons x s ih=>
  intro b hb;rw [List.takeWhile_cons] at hb;split at hb
  ·rename_i h;rcases List.mem_cons.1 hb with rfl|hb
   ·exact h
   exact ih b hb
  simp at hb
theorem sR {a r:List UInt8}(ha:AllD a)(hr:r=[]∨∃x r',r=x::r'∧dig x=false):(a++r).takeWhile dig=a∧(a++r).dropWhile dig=r:=by
 induction a with
 |nil=>
  rcases hr with rfl|⟨x,r',rfl,hx⟩
  ·exact ⟨rfl,rfl⟩
  simp [List.takeWhile_cons,List.dropWhile_cons,hx]
 |cons b a ih=>
  have hb:dig b=true:=oN.2 (ha b (by simp));have:=ih fun c hc=>ha c (by simp [hc]);simp only [List.cons_append,List.takeWhile_cons,List.dropWhile_cons,hb,if_true];exact ⟨by rw [this.1],this.2⟩
theorem gK {a b:UInt8}(h:a.toNat=b.toNat):a=b:=UInt8.toNat_inj.1 h
theorem fW {b:UInt8}(h:48≤b.toNat∧b.toNat≤57):UInt8.ofNat (48+(b.toNat-48))=b:=by
 apply gK;rw [uk zo];omega
theorem zcb {d:List UInt8}(hd:AllD d)(h0:d≠[])(h1:d.head?≠some 48):dval d≠0∧(decB (dval d)).map UInt8.ofNat=d:=by
 induction hl:d.length generalizing d with
 |zero=>exact absurd (List.length_eq_zero_iff.1 hl) h0
 |succ m ih=>
  obtain ⟨i,b,rfl⟩:∃i b,d=i++[b]:=⟨d.dropLast,d.getLast h0,(List.dropLast_concat_getLast h0).symm⟩;have hb:=hd b (by simp);rw [uN];by_cases hi:i=[]
  ·subst hi;have hb0:b.toNat≠48:=fun e=>h1 (by show some b=some 48;rw [gK (a:=b) (b:=48) e]);have e0:dval []=0:=rfl;rw [e0];refine ⟨zo,?_⟩;rw [oP zo (.inr zo)];have:decB 0=[]:=by unfold decB;rw [xm];rfl
   rw [this,List.nil_append,List.map_cons,List.map_nil,fW hb];rfl
  obtain ⟨h2,h3⟩:=ih (d:=i) (fun c hc=>hd c (by simp [hc])) hi (by
   cases i with
   |nil=>exact absurd rfl hi
   |cons x i=>simpa using h1) (by simpa using hl)
  refine ⟨zo,?_⟩;rw [oP zo (.inl h2),List.map_append,h3,List.map_cons,List.map_nil,fW hb]
theorem qq {d:List UInt8}(hd:AllD d)(h0:d≠[])(h1:d.head?≠some 48):decT (dval d)=d:=by
 obtain ⟨h2,h3⟩:=zcb hd h0 h1;unfold decT;rw [if_neg h2,h3]
theorem eg:decT 1=[49]:=qq (d:=[49]) (fun b hb=>by rw [List.mem_singleton.1 hb];decide) (by simp) (by simp)
theorem zce (h:V≠0):((decB V).map UInt8.ofNat).head?≠some 48:=by
 induction V using Nat.strongRecOn with
 |ind V ih=>
  have e:decB V=decB (V/10)++[48+V%10]:=by
   unfold decB;rw [wq h];simp
  rw [e];by_cases h2:V/10=0
  ·have:decB (V/10)=[]:=by unfold decB;rw [h2,xm];rfl
   rw [this];intro he;simp only [List.nil_append,List.map_cons,List.map_nil,List.head?_cons,Option.some.injEq] at he;have:=uk (c:=V%10) zo;rw [he] at this;have e48:(48:UInt8).toNat=48:=rfl;omega
  have:=ih (V/10) zo h2;cases hd:(decB (V/10)).map UInt8.ofNat with
  |nil=>
   have h5:=(pr (V/10)).2;rw [hd] at h5;exact absurd h5.symm h2
  |cons x l=>
   rw [List.map_append,hd];rw [hd] at this;simpa using this
theorem jB (h:V≠0):(decT V).head?≠some 48:=by
 unfold decT;rw [if_neg h];exact zce h
theorem ek {a:Nat}(h:decT a=decT b):a=b:=by
 rw [←(yZ a).2.1,h,(yZ b).2.1]
def spl (s:List UInt8):List UInt8×List UInt8×Bool:=
 let b:=yx s
 let m:=b.takeWhile dig
 let r:=b.dropWhile dig
 if m=[48] then (m,[],!zC s&&r.isEmpty)
 else if m=[]∨m.head?=some 48 then (m,[],false)
 else if r=[] then (m,[],true)
 else if r.head?≠some 47 then (m,[],false)
 else
  let d:=(r.drop 1).takeWhile dig
  let r2:=(r.drop 1).dropWhile dig
  (m,d,r2.isEmpty&& !d.isEmpty&&d.head? != some 48&&d != [49])
theorem cQ (s:List UInt8):(yx s).takeWhile dig++(yx s).dropWhile dig=yx s:=List.takeWhile_append_dropWhile
theorem zh5:s=(if zC s then [45] else [])++yx s:=by
 unfold yx;by_cases h:zC s=true
 ·rw [if_pos h,if_pos h];unfold zC at h;cases s with
  |nil=>simp at h
  |cons x s=>
   have:x=45:=by simpa using h
   subst this;rfl
 rw [if_neg h,if_neg h];rfl
structure Frm (s:List UInt8)(m d:List UInt8):Prop where
 dm:AllD m
 m0:m≠[]
 dd:AllD d
 lead:m=[48]∧zC s=false∧d=[]∨m.head?≠some 48
 den:d=[]∨d.head?≠some 48∧d≠[49]
 eq:s=(if zC s then [45] else [])++(m++(if d=[] then [] else 47::d))
theorem rR {m d:List UInt8}(h:spl s=(m,d,true)):Frm s m d:=by
 have hb:=cQ s;have hs:=zh5 (s:=s);have hm:AllD ((yx s).takeWhile dig):=AllD.all.2 vZ;unfold spl at h;simp only at h;generalize (yx s).takeWhile dig=m0 at*
 generalize (yx s).dropWhile dig=r at*
 split at h
 ·rename_i h48;simp only [Prod.mk.injEq] at h;obtain ⟨rfl,rfl,h3⟩:=h;simp only [Bool.and_eq_true,Bool.not_eq_true',List.isEmpty_iff] at h3;obtain ⟨h3,rfl⟩:=h3;refine ⟨hm,by rw [h48];simp,fun b hb=>absurd hb (by simp),.inl ⟨h48,h3,rfl⟩,.inl rfl,?_⟩;rw [if_pos rfl,hb];exact hs
 split at h
 ·simp at h
 rename_i h48 hne;have hne1:¬m0=[]:=fun e=>hne (.inl e);have hne2:¬m0.head?=some 48:=fun e=>hne (.inr e);split at h
 ·rename_i hr;simp only [Prod.mk.injEq] at h;obtain ⟨rfl,rfl,_⟩:=h;refine ⟨hm,hne1,fun b hb=>absurd hb (by simp),.inr hne2,.inl rfl,?_⟩;subst hr;rw [if_pos rfl,hb];exact hs
 split at h
 ·simp at h
 rename_i hr h47;have h47:r.head?=some 47:=Classical.not_not.1 h47;simp only [Prod.mk.injEq] at h;obtain ⟨rfl,rfl,h3⟩:=h;simp only [Bool.and_eq_true,Bool.not_eq_true',List.isEmpty_iff,bne_iff_ne,ne_eq] at h3;obtain ⟨⟨⟨h3,h4⟩,h5⟩,h6⟩:=h3;obtain ⟨r',rfl⟩:∃r',r=47::r':=by
  cases r with
  |nil=>simp at h47
  |cons x r=>exact ⟨r,by simp at h47;rw [h47]⟩
 simp only [List.drop_one,List.tail_cons] at h3 h4 h5 h6 ⊢;have hd:AllD (r'.takeWhile dig):=AllD.all.2 vZ;have hd2:r'.takeWhile dig++r'.dropWhile dig=r':=List.takeWhile_append_dropWhile;rw [h3,List.append_nil] at hd2;rw [hd2] at hd h4 h5 h6 ⊢;have hne:¬r'=[]:=fun e=>by rw [e] at h4;simp at h4
 refine ⟨hm,hne1,hd,.inr hne2,.inr ⟨h5,h6⟩,?_⟩;rw [if_neg hne,hb];exact hs
theorem tf (q:Rat):spl (ratT q)=(decT q.num.natAbs,(if q.den=1 then [] else decT q.den),true):=by
 obtain ⟨h1,h2⟩:=vy q;obtain ⟨hd,hv,hne⟩:=yZ q.num.natAbs;obtain ⟨dd,dvv,dne⟩:=yZ q.den;have htw:=sR (a:=decT q.num.natAbs) (r:=if q.den=1 then [] else 47::decT q.den) hd (by
  by_cases h:q.den=1
  ·left;rw [if_pos h]
  ·right;rw [if_neg h];exact ⟨47,_,rfl,rfl⟩)
 have hdw:=sR (a:=decT q.den) (r:=[]) dd (.inl rfl);rw [List.append_nil] at hdw;unfold spl;simp only;rw [h2,htw.1,htw.2,h1];by_cases h0:q.num=0
 ·have hq:q.den=1:=by
   have:=q.reduced;rw [h0] at this;simpa using this
  rw [h0,if_pos hq,if_pos hq];rfl
 have hn0:q.num.natAbs≠0:=zo;have hhd:=jB hn0;have h48:¬decT q.num.natAbs=[48]:=fun e=>hhd (by rw [e];rfl);rw [if_neg h48,if_neg (by rintro (e|e);exact hne e;exact hhd e)];by_cases hq:q.den=1
 ·rw [if_pos hq,if_pos rfl,if_pos hq]
 rw [if_neg hq,if_neg (by simp),if_neg (by simp),if_neg hq];simp only [List.drop_one,List.tail_cons];rw [hdw.1,hdw.2];have hd0:q.den≠0:=q.den_nz;have e1:(decT q.den).isEmpty=false:=by cases h:decT q.den with
  |nil=>exact absurd h dne
  |cons x l=>rfl
 have e2:((decT q.den).head? != some 48)=true:=by rw [bne_iff_ne];exact jB hd0
 have e3:(decT q.den != [49])=true:=by
  rw [bne_iff_ne];intro e;have:dval (decT q.den)=1:=by rw [e];rfl
  rw [dvv] at this;exact hq this
 rw [e1,e2,e3];rfl
theorem Frm.rat {m d:List UInt8}(h:Frm s m d)(hg:d=[]∨Nat.gcd (dval m) (dval d)=1):∃q:Rat,ratT q=s∧q.num=(if zC s then -(dval m:Int) else dval m)∧q.den=(if d=[] then 1 else dval d):=by
 obtain ⟨dm,m0,dd,lead,den,eq⟩:=h;have hdv:∃D:Nat,D≠0∧D=(if d=[] then 1 else dval d)∧Nat.gcd (dval m) D=1∧(if D=1 then [] else 47::decT D)=(if d=[] then [] else 47::d):=by
  by_cases hd:d=[]
  ·refine ⟨1,by decide,by rw [if_pos hd],Nat.gcd_one_right _,by rw [if_pos rfl,if_pos hd]⟩
  rcases den with h|⟨h1,h2⟩
  ·exact absurd h hd
  have e:=qq dd hd h1;refine ⟨dval d,(zcb dd hd h1).1,by rw [if_neg hd],hg.resolve_left hd,?_⟩;rw [e,if_neg hd,if_neg];intro h;rw [h] at e;exact h2 (by rw [←e];exact eg)
 obtain ⟨D,D0,hD,hgD,hDt⟩:=hdv;refine ⟨⟨if zC s then -(dval m:Int) else dval m,D,D0,?_⟩,?_,rfl,hD⟩
 ·show Nat.Coprime _ _;unfold Nat.Coprime;split
  ·rw [Int.natAbs_neg];exact hgD
  exact hgD
 have habs:(if zC s then -(dval m:Int) else dval m).natAbs=dval m:=by
  split
  ·rw [Int.natAbs_neg];rfl
  rfl
 have hm:decT (dval m)=m:=by
  rcases lead with ⟨h,_,_⟩|h
  ·rw [h];rfl
  exact qq dm m0 h
 have hsign:(if (if zC s then -(dval m:Int) else dval m)<0 then [45] else [])=(if zC s then [45] else ([]:List UInt8)):=by
  by_cases hh:zC s=true
  ·rw [if_pos hh,if_pos hh];rcases lead with ⟨_,h,_⟩|h
   ·rw [h] at hh;cases hh
   have:=(zcb dm m0 h).1;rw [if_pos zo]
  rw [if_neg hh,if_neg hh,if_neg zo]
 show (if (if zC s then -(dval m:Int) else dval m)<0 then [45] else [])++(decT (if zC s then -(dval m:Int) else dval m).natAbs++(if D=1 then [] else 47::decT D))=s;rw [hsign,habs,hm,hDt];exact eq.symm
theorem ry (s:List UInt8):xz s↔(spl s).2.2=true∧((spl s).2.1=[]∨Nat.gcd (dval (spl s).1) (dval (spl s).2.1)=1):=by
 constructor
 ·rintro ⟨q,rfl⟩;rw [tf];refine ⟨rfl,?_⟩;by_cases hq:q.den=1
  ·left;show (if q.den=1 then [] else _)=_;rw [if_pos hq]
  right;show Nat.gcd (dval (decT _)) (dval (if q.den=1 then [] else _))=1;rw [if_neg hq,(yZ _).2.1,(yZ _).2.1];exact q.reduced
 rintro ⟨h1,h2⟩;have hf:=rR (s:=s) (m:=(spl s).1) (d:=(spl s).2.1) (by rw [←h1]);obtain ⟨q,hq,_⟩:=hf.rat h2;exact ⟨q,hq⟩
theorem za2 (h:GK.isBad s=true):¬xz s∧GK.isSmall s=false:=by
 unfold GK.isBad at h;rw [List.any_eq_true] at h;obtain ⟨l,hl,he⟩:=h;have he:l=s:=by simpa using he
 subst he;simp only [GK.bads,List.mem_cons,List.not_mem_nil,or_false] at hl;rcases hl with rfl|rfl|rfl<;>exact ⟨fun h=>absurd ((ry _).1 h).1 zd,by decide⟩
end Go.Proofs.YtfajmfoofmienaaGreatDoor
namespace Go.Proofs.YtfajmfoofmienaaGreatDoor
open Go Go.GL
variable {q:Rat}{s:List UInt8}
theorem rk {p:Rat}(h:ratT p=ratT q):p=q:=by
 have h1:=tf p;have h2:=tf q;rw [h,h2] at h1;have e1:decT q.num.natAbs=decT p.num.natAbs:=congrArg Prod.fst h1;have e2:(if q.den=1 then [] else decT q.den)=(if p.den=1 then [] else decT p.den):=congrArg (fun x=>x.2.1) h1;have m1:=(vy p).1;have m2:=(vy q).1;rw [h,m2] at m1;have a1:=ek e1;have hs:q.num<0↔p.num<0:=decide_eq_decide.1 m1;refine Rat.ext zo ?_;have n1:=(yZ p.den).2.2;have n2:=(yZ q.den).2.2;split at e2<;>split at e2
 ·omega
 ·exact absurd e2.symm n1
 ·exact absurd e2 n2
 exact (ek e2).symm
noncomputable def z0 (s:List UInt8):Rat:=open Classical in if h:xz s then h.choose else 0
theorem ul (h:¬xz s):z0 s=0:=by unfold z0;rw [dif_neg h]
theorem dG (h:xz s):ratT (z0 s)=s:=by unfold z0;rw [dif_pos h];exact h.choose_spec
theorem rp (h:ratT q=s):z0 s=q:=rk ((dG ⟨q,h⟩).trans h.symm)
section
variable {h:HF}{b cx cy fx fy gx gy lx ly n:Nat}{dx dy sx sy:Bool}{ax ay ex ey:Option Addr}
theorem addU (k:Nat){x:Int}{y:Int}(ix:UI h n sx ax lx cx x)(iy:UI h n sy ay ly cy y)(hx:x.natAbs<BX)(hy:y.natAbs<BX):CX (cal (k+3)) 75 [.agg #[.bool sx,.slice ax lx cx],.agg #[.bool sy,.slice ay ly cy]] h n (UIV (x+y)):=by
 refine zk (fn:=Tryz.f75) R4 ?_;refine zG ?_;refine sB [.bool sx,.slice ax lx cx] ?_;intro h11 p11 x11;refine sB [.bool sy,.slice ay ly cy] ?_;intro h12 p12 x12;refine sA ?_;intro h13 p13 x13;refine zG ?_;cases sx
 ·refine zG ?_;cases sy
  ·refine zG ?_;refine zl [0,1,0,4,0,16,60,127,255] rfl ?_;refine zH ?_;refine dC (zly _ (ix.t zt).2 (iy.t zt).2 (by first|exact ⟨hx,hy⟩|exact ⟨hy,hx⟩)) ?_;rintro _ h14 n14 ⟨a14,l14,c14,rfl,i14⟩ y14 x14;refine dC (uC _ i14 false) ?_;rintro _ h15 n15 ⟨b15,a15,l15,c15,rfl,i15⟩ y15 x15;refine dS [.bool b15,.slice a15 l15 c15] ?_;intro h16 p16 o16;refine zq ?_;exact ⟨_,_,_,_,rfl,(i15.t zt).as (by have:=ix.ge;have:=iy.ge;unfold sgZ;(try simp only [if_true,if_false,Bool.false_eq_true]);omega)⟩
  refine zG ?_;refine sC (zlr _ (ix.t zt).2 (iy.t zt).2 (by first|exact ⟨hx,hy⟩|exact ⟨hy,hx⟩)) ?_;rintro _ h17 n17 ⟨s17,rfl,q17⟩ y17 x17;rcases q17 with ⟨rfl,q17⟩|⟨rfl,q17⟩|⟨rfl,q17⟩
  ·refine zG ?_;refine zl [0,1,0,4,0,16,60,127,255] rfl ?_;refine zH ?_;refine dC (eM _ (iy.t zt).2 (ix.t zt).2 (by first|exact ⟨hx,hy⟩|exact ⟨hy,hx⟩) zo) ?_;rintro _ h18 n18 ⟨a18,l18,c18,rfl,i18⟩ y18 x18;refine dC (uC _ i18 true) ?_;rintro _ h19 n19 ⟨b19,a19,l19,c19,rfl,i19⟩ y19 x19;refine dS [.bool b19,.slice a19 l19 c19] ?_;intro h20 p20 o20;refine zq ?_;exact ⟨_,_,_,_,rfl,(i19.t zt).as (by have:=ix.ge;have:=iy.lt;unfold sgZ;(try simp only [if_true,if_false,Bool.false_eq_true]);omega)⟩
  ·refine zG ?_;refine zl [0,1,0,4,0,16,60,127,255] rfl ?_;refine zH ?_;refine dC (eM _ (ix.t zt).2 (iy.t zt).2 (by first|exact ⟨hx,hy⟩|exact ⟨hy,hx⟩) zo) ?_;rintro _ h21 n21 ⟨a21,l21,c21,rfl,i21⟩ y21 x21;refine dC (uC _ i21 false) ?_;rintro _ h22 n22 ⟨b22,a22,l22,c22,rfl,i22⟩ y22 x22;refine dS [.bool b22,.slice a22 l22 c22] ?_;intro h23 p23 o23;refine zq ?_;exact ⟨_,_,_,_,rfl,(i22.t zt).as (by have:=ix.ge;have:=iy.lt;unfold sgZ;(try simp only [if_true,if_false,Bool.false_eq_true]);omega)⟩
  refine zG ?_;refine zl [0,1,0,4,0,16,60,127,255] rfl ?_;refine zH ?_;refine dC (eM _ (ix.t zt).2 (iy.t zt).2 (by first|exact ⟨hx,hy⟩|exact ⟨hy,hx⟩) zo) ?_;rintro _ h24 n24 ⟨a24,l24,c24,rfl,i24⟩ y24 x24;refine dC (uC _ i24 false) ?_;rintro _ h25 n25 ⟨b25,a25,l25,c25,rfl,i25⟩ y25 x25;refine dS [.bool b25,.slice a25 l25 c25] ?_;intro h26 p26 o26;refine zq ?_;exact ⟨_,_,_,_,rfl,(i25.t zt).as (by have:=ix.ge;have:=iy.lt;unfold sgZ;(try simp only [if_true,if_false,Bool.false_eq_true]);omega)⟩
 refine zG ?_;cases sy
 ·refine zG ?_;refine sC (zlr _ (ix.t zt).2 (iy.t zt).2 (by first|exact ⟨hx,hy⟩|exact ⟨hy,hx⟩)) ?_;rintro _ h27 n27 ⟨s27,rfl,q27⟩ y27 x27;rcases q27 with ⟨rfl,q27⟩|⟨rfl,q27⟩|⟨rfl,q27⟩
  ·refine zG ?_;refine zl [0,1,0,4,0,16,60,127,255] rfl ?_;refine zH ?_;refine dC (eM _ (iy.t zt).2 (ix.t zt).2 (by first|exact ⟨hx,hy⟩|exact ⟨hy,hx⟩) zo) ?_;rintro _ h28 n28 ⟨a28,l28,c28,rfl,i28⟩ y28 x28;refine dC (uC _ i28 false) ?_;rintro _ h29 n29 ⟨b29,a29,l29,c29,rfl,i29⟩ y29 x29;refine dS [.bool b29,.slice a29 l29 c29] ?_;intro h30 p30 o30;refine zq ?_;exact ⟨_,_,_,_,rfl,(i29.t zt).as (by have:=ix.lt;have:=iy.ge;unfold sgZ;(try simp only [if_true,if_false,Bool.false_eq_true]);omega)⟩
  ·refine zG ?_;refine zl [0,1,0,4,0,16,60,127,255] rfl ?_;refine zH ?_;refine dC (eM _ (ix.t zt).2 (iy.t zt).2 (by first|exact ⟨hx,hy⟩|exact ⟨hy,hx⟩) zo) ?_;rintro _ h31 n31 ⟨a31,l31,c31,rfl,i31⟩ y31 x31;refine dC (uC _ i31 true) ?_;rintro _ h32 n32 ⟨b32,a32,l32,c32,rfl,i32⟩ y32 x32;refine dS [.bool b32,.slice a32 l32 c32] ?_;intro h33 p33 o33;refine zq ?_;exact ⟨_,_,_,_,rfl,(i32.t zt).as (by have:=ix.lt;have:=iy.ge;unfold sgZ;(try simp only [if_true,if_false,Bool.false_eq_true]);omega)⟩
  refine zG ?_;refine zl [0,1,0,4,0,16,60,127,255] rfl ?_;refine zH ?_;refine dC (eM _ (ix.t zt).2 (iy.t zt).2 (by first|exact ⟨hx,hy⟩|exact ⟨hy,hx⟩) zo) ?_;rintro _ h34 n34 ⟨a34,l34,c34,rfl,i34⟩ y34 x34;refine dC (uC _ i34 true) ?_;rintro _ h35 n35 ⟨b35,a35,l35,c35,rfl,i35⟩ y35 x35;refine dS [.bool b35,.slice a35 l35 c35] ?_;intro h36 p36 o36;refine zq ?_;exact ⟨_,_,_,_,rfl,(i35.t zt).as (by have:=ix.lt;have:=iy.ge;unfold sgZ;(try simp only [if_true,if_false,Bool.false_eq_true]);omega)⟩
 refine zG ?_;refine zl [0,1,0,4,0,16,60,127,255] rfl ?_;refine zH ?_;refine dC (zly _ (ix.t zt).2 (iy.t zt).2 (by first|exact ⟨hx,hy⟩|exact ⟨hy,hx⟩)) ?_;rintro _ h37 n37 ⟨a37,l37,c37,rfl,i37⟩ y37 x37;refine dC (uC _ i37 true) ?_;rintro _ h38 n38 ⟨b38,a38,l38,c38,rfl,i38⟩ y38 x38;refine dS [.bool b38,.slice a38 l38 c38] ?_;intro h39 p39 o39;refine zq ?_;exact ⟨_,_,_,_,rfl,(i38.t zt).as (by have:=ix.lt;have:=iy.lt;unfold sgZ;(try simp only [if_true,if_false,Bool.false_eq_true]);omega)⟩
theorem mulU (k:Nat){x:Int}{y:Int}(ix:UI h n sx ax lx cx x)(iy:UI h n sy ay ly cy y)(hx:x.natAbs<BX)(hy:y.natAbs<BX):CX (cal (k+3)) 70 [.agg #[.bool sx,.slice ax lx cx],.agg #[.bool sy,.slice ay ly cy]] h n (UIV (x*y)):=by
 refine zk (fn:=Tryz.f70) R4 ?_;refine zG ?_;refine sB [.bool sx,.slice ax lx cx] ?_;intro h11 p11 x11;refine sB [.bool sy,.slice ay ly cy] ?_;intro h12 p12 x12;refine sA ?_;intro h13 p13 x13;refine zG ?_;refine zl [0,1,0,4,15,0,32,0,128,480,1023,2047] rfl ?_;refine zH ?_;cases sx
 ·refine zH ?_;cases sy
  ·refine zH ?_;refine dC (zd8 _ (ix.t zt).2 (iy.t zt).2 (by first|exact ⟨hx,hy⟩|exact ⟨hy,hx⟩)) ?_;rintro _ h14 n14 ⟨a14,l14,c14,rfl,i14⟩ y14 x14;refine dC (uC _ i14 false) ?_;rintro _ h15 n15 ⟨b15,a15,l15,c15,rfl,i15⟩ y15 x15;refine dS [.bool b15,.slice a15 l15 c15] ?_;intro h16 p16 o16;refine zq ?_;exact ⟨_,_,_,_,rfl,(i15.t zt).as (by have:=ix.ge;have:=iy.ge;exact uH (by simp<;>omega))⟩
  refine zH ?_;refine dC (zd8 _ (ix.t zt).2 (iy.t zt).2 (by first|exact ⟨hx,hy⟩|exact ⟨hy,hx⟩)) ?_;rintro _ h17 n17 ⟨a17,l17,c17,rfl,i17⟩ y17 x17;refine dC (uC _ i17 true) ?_;rintro _ h18 n18 ⟨b18,a18,l18,c18,rfl,i18⟩ y18 x18;refine dS [.bool b18,.slice a18 l18 c18] ?_;intro h19 p19 o19;refine zq ?_;exact ⟨_,_,_,_,rfl,(i18.t zt).as (by have:=ix.ge;have:=iy.lt;exact uH (by simp<;>omega))⟩
 refine zH ?_;cases sy
 ·refine zH ?_;refine dC (zd8 _ (ix.t zt).2 (iy.t zt).2 (by first|exact ⟨hx,hy⟩|exact ⟨hy,hx⟩)) ?_;rintro _ h20 n20 ⟨a20,l20,c20,rfl,i20⟩ y20 x20;refine dC (uC _ i20 true) ?_;rintro _ h21 n21 ⟨b21,a21,l21,c21,rfl,i21⟩ y21 x21;refine dS [.bool b21,.slice a21 l21 c21] ?_;intro h22 p22 o22;refine zq ?_;exact ⟨_,_,_,_,rfl,(i21.t zt).as (by have:=ix.lt;have:=iy.ge;exact uH (by simp<;>omega))⟩
 refine zH ?_;refine dC (zd8 _ (ix.t zt).2 (iy.t zt).2 (by first|exact ⟨hx,hy⟩|exact ⟨hy,hx⟩)) ?_;rintro _ h23 n23 ⟨a23,l23,c23,rfl,i23⟩ y23 x23;refine dC (uC _ i23 false) ?_;rintro _ h24 n24 ⟨b24,a24,l24,c24,rfl,i24⟩ y24 x24;refine dS [.bool b24,.slice a24 l24 c24] ?_;intro h25 p25 o25;refine zq ?_;exact ⟨_,_,_,_,rfl,(i24.t zt).as (by have:=ix.lt;have:=iy.lt;exact uH (by simp<;>omega))⟩
theorem denU (k:Nat){x:Rat}(ix:UI h n sx ax lx cx x.num)(jx:UI h n dx ex fx gx (denZ x)):CX (cal (k+3)) 72 [.agg #[.bool sx,.slice ax lx cx,.bool dx,.slice ex fx gx]] h n (UIV (x.den:Int)):=by
 refine zk (fn:=Tryz.f72) R4 ?_;refine zG ?_;refine sB [.bool sx,.slice ax lx cx,.bool dx,.slice ex fx gx] ?_;intro h11 p11 x11;refine sA ?_;intro h12 p12 x12;refine zG ?_;by_cases q13:(fx:Int)=0
 ·refine zG ?_;refine sC (zbb _ _ _) ?_;rintro _ h14 n14 ⟨b14,a14,l14,c14,rfl,i14⟩ y14 x14;refine sS [.bool b14,.slice a14 l14 c14] ?_;intro h15 p15 o15;refine zq ?_;exact ⟨_,_,_,_,rfl,(i14.t zt).as (by rw [yw.1 (Int.natAbs_eq_zero.1 (jx.2.zero.1 zo))];rfl)⟩
 refine zG ?_;refine sS [.bool dx,.slice ex fx gx] ?_;intro h16 p16 o16;refine zq ?_;exact ⟨_,_,_,_,rfl,(jx.t zt).as (vm (fun e=>q13 (by have:=jx.2.zero;rw [e] at this;simp at this;omega)))⟩
theorem mv (x y:Rat):Rat.divInt (x.num*(y.den:Int)+y.num*(x.den:Int)) ((x.den:Int)*(y.den:Int))=x+y:=by
 rw [Rat.add_def,Rat.normalize_eq_mkRat,←Int.natCast_mul];rfl
theorem mu (x y:Rat):Rat.divInt (x.num*y.num) ((x.den:Int)*(y.den:Int))=x*y:=by
 rw [Rat.mul_def,Rat.normalize_eq_mkRat,←Int.natCast_mul];rfl
theorem fZ (x y:Rat):(x.den:Int)*(y.den:Int)≠0:=Int.mul_ne_zero (by have:=x.den_pos;omega) (by have:=y.den_pos;omega)
theorem dp (k:Nat){x:Rat}{y:Rat}(ix:UI h n sx ax lx cx x.num)(jx:UI h n dx ex fx gx (denZ x))(iy:UI h n sy ay ly cy y.num)(jy:UI h n dy ey fy gy (denZ y)){a:Nat}(hx:Sz a x)(hy:Sz b y)(hab:a+b+1≤32):CX (cal (k+6)) 32 [.agg #[.bool sx,.slice ax lx cx,.bool dx,.slice ex fx gx],.agg #[.bool sy,.slice ay ly cy,.bool dy,.slice ey fy gy]] h n (NQ (x+y)):=by
 obtain ⟨hxn,hxd⟩:x.num.natAbs<2^a∧(denZ x).natAbs<2^a:=⟨hx.1,hx.z⟩;obtain ⟨hyn,hyd⟩:y.num.natAbs<2^b∧(denZ y).natAbs<2^b:=⟨hy.1,hy.z⟩;have hxn1:=wO hxn zo;have hxd1:=wO hxd zo;have hyn1:=wO hyn zo;have hyd1:=wO hyd zo;have hxp:=x.den_pos;have hyp:=y.den_pos;have hxe:((x.den:Int)).natAbs<2^a:=hx.2;have hye:((y.den:Int)).natAbs<2^b:=hy.2;have hxe1:=wO hxe zo;have hye1:=wO hye zo;refine zk (fn:=Tryz.f32) R4 ?_;refine zG ?_;refine sB [.bool sx,.slice ax lx cx,.bool dx,.slice ex fx gx] ?_;intro h11 p11 x11;refine sB [.bool sy,.slice ay ly cy,.bool dy,.slice ey fy gy] ?_;intro h12 p12 x12;refine sA ?_;intro h13 p13 x13;refine zG ?_;by_cases q14:(fx:Int)=0
 ·refine zG ?_;by_cases q15:(fy:Int)=0
  ·refine zG ?_;refine sC (addU _ (ix.t zt) (iy.t zt) szU szU) ?_;rintro _ h16 n16 ⟨b16,a16,l16,c16,rfl,i16⟩ y16 x16;refine sT #[.bool b16,.slice a16 l16 c16,.bool false,.slice none 0 0] ?_;refine sS [.bool b16,.slice a16 l16 c16,.bool false,.slice none 0 0] ?_;intro h17 p17 o17;refine zq ?_;exact ⟨_,_,_,_,_,_,_,_,rfl,(i16.t zt).as ((zg5 (Int.natAbs_eq_zero.1 (jx.2.zero.1 zo)) (Int.natAbs_eq_zero.1 (jy.2.zero.1 zo))).1.symm),(UI.zero _ _).as ((zg5 (Int.natAbs_eq_zero.1 (jx.2.zero.1 zo)) (Int.natAbs_eq_zero.1 (jy.2.zero.1 zo))).2.symm)⟩
  refine zG ?_;refine zl [0,1,0,4,15,0,32,0,159,511,1023,0,4095,0,16383,32767,65535,131071] rfl ?_;refine zH ?_;refine dC (denU _ (iy.t zt) (jy.t zt)) ?_;rintro _ h18 n18 ⟨b18,a18,l18,c18,rfl,i18⟩ y18 x18;refine dC (mulU _ (ix.t zt) i18 szU szU) ?_;rintro _ h19 n19 ⟨b19,a19,l19,c19,rfl,i19⟩ y19 x19;refine zH ?_;refine dC (denU _ (ix.t zt) (jx.t zt)) ?_;rintro _ h20 n20 ⟨b20,a20,l20,c20,rfl,i20⟩ y20 x20;refine dC (mulU _ (iy.t zt) i20 szU szU) ?_;rintro _ h21 n21 ⟨b21,a21,l21,c21,rfl,i21⟩ y21 x21;refine dC (addU _ (i19.t zt) i21 szU szU) ?_;rintro _ h22 n22 ⟨b22,a22,l22,c22,rfl,i22⟩ y22 x22;refine zH ?_;refine dC (denU _ (ix.t zt) (jx.t zt)) ?_;rintro _ h23 n23 ⟨b23,a23,l23,c23,rfl,i23⟩ y23 x23;refine zH ?_;refine dC (denU _ (iy.t zt) (jy.t zt)) ?_;rintro _ h24 n24 ⟨b24,a24,l24,c24,rfl,i24⟩ y24 x24;refine dC (mulU _ (i23.t zt) i24 szU szU) ?_;rintro _ h25 n25 ⟨b25,a25,l25,c25,rfl,i25⟩ y25 x25;refine dC (mg _ (i22.t zt) i25 szU szU (fZ x y) (mv x y)) ?_;rintro _ h26 n26 ⟨b26,a26,l26,c26,d26,e26,f26,g26,rfl,i26,j26⟩ y26 x26;refine dS [.bool b26,.slice a26 l26 c26,.bool d26,.slice e26 f26 g26] ?_;intro h27 p27 o27;refine zq ?_;exact ⟨_,_,_,_,_,_,_,_,rfl,(i26.t zt),(j26.t zt)⟩
 refine zG ?_;refine zl [0,1,0,4,15,0,32,0,159,511,1023,0,4095,0,16383,32767,65535,131071] rfl ?_;refine zH ?_;refine dC (denU _ (iy.t zt) (jy.t zt)) ?_;rintro _ h28 n28 ⟨b28,a28,l28,c28,rfl,i28⟩ y28 x28;refine dC (mulU _ (ix.t zt) i28 szU szU) ?_;rintro _ h29 n29 ⟨b29,a29,l29,c29,rfl,i29⟩ y29 x29;refine zH ?_;refine dC (denU _ (ix.t zt) (jx.t zt)) ?_;rintro _ h30 n30 ⟨b30,a30,l30,c30,rfl,i30⟩ y30 x30;refine dC (mulU _ (iy.t zt) i30 szU szU) ?_;rintro _ h31 n31 ⟨b31,a31,l31,c31,rfl,i31⟩ y31 x31;refine dC (addU _ (i29.t zt) i31 szU szU) ?_;rintro _ h32 n32 ⟨b32,a32,l32,c32,rfl,i32⟩ y32 x32;refine zH ?_;refine dC (denU _ (ix.t zt) (jx.t zt)) ?_;rintro _ h33 n33 ⟨b33,a33,l33,c33,rfl,i33⟩ y33 x33;refine zH ?_;refine dC (denU _ (iy.t zt) (jy.t zt)) ?_;rintro _ h34 n34 ⟨b34,a34,l34,c34,rfl,i34⟩ y34 x34;refine dC (mulU _ (i33.t zt) i34 szU szU) ?_;rintro _ h35 n35 ⟨b35,a35,l35,c35,rfl,i35⟩ y35 x35;refine dC (mg _ (i32.t zt) i35 szU szU (fZ x y) (mv x y)) ?_;rintro _ h36 n36 ⟨b36,a36,l36,c36,d36,e36,f36,g36,rfl,i36,j36⟩ y36 x36;refine dS [.bool b36,.slice a36 l36 c36,.bool d36,.slice e36 f36 g36] ?_;intro h37 p37 o37;refine zq ?_;exact ⟨_,_,_,_,_,_,_,_,rfl,(i36.t zt),(j36.t zt)⟩
theorem zdz (k:Nat){x:Rat}{y:Rat}(ix:UI h n sx ax lx cx x.num)(jx:UI h n dx ex fx gx (denZ x))(iy:UI h n sy ay ly cy y.num)(jy:UI h n dy ey fy gy (denZ y)){a:Nat}(hx:Sz a x)(hy:Sz b y)(hab:a+b+1≤32):CX (cal (k+6)) 29 [.agg #[.bool sx,.slice ax lx cx,.bool dx,.slice ex fx gx],.agg #[.bool sy,.slice ay ly cy,.bool dy,.slice ey fy gy]] h n (NQ (x*y)):=by
 obtain ⟨hxn,hxd⟩:x.num.natAbs<2^a∧(denZ x).natAbs<2^a:=⟨hx.1,hx.z⟩;obtain ⟨hyn,hyd⟩:y.num.natAbs<2^b∧(denZ y).natAbs<2^b:=⟨hy.1,hy.z⟩;have hxn1:=wO hxn zo;have hxd1:=wO hxd zo;have hyn1:=wO hyn zo;have hyd1:=wO hyd zo;have hxp:=x.den_pos;have hyp:=y.den_pos;have hxe:((x.den:Int)).natAbs<2^a:=hx.2;have hye:((y.den:Int)).natAbs<2^b:=hy.2;have hxe1:=wO hxe zo;have hye1:=wO hye zo;refine zk (fn:=Tryz.f29) R4 ?_;refine zG ?_;refine sB [.bool sx,.slice ax lx cx,.bool dx,.slice ex fx gx] ?_;intro h11 p11 x11;refine sB [.bool sy,.slice ay ly cy,.bool dy,.slice ey fy gy] ?_;intro h12 p12 x12;refine sA ?_;intro h13 p13 x13;refine zG ?_;by_cases q14:(fx:Int)=0
 ·refine zG ?_;by_cases q15:(fy:Int)=0
  ·refine zG ?_;refine sC (mulU _ (ix.t zt) (iy.t zt) szU szU) ?_;rintro _ h16 n16 ⟨b16,a16,l16,c16,rfl,i16⟩ y16 x16;refine sT #[.bool b16,.slice a16 l16 c16,.bool false,.slice none 0 0] ?_;refine sS [.bool b16,.slice a16 l16 c16,.bool false,.slice none 0 0] ?_;intro h17 p17 o17;refine zq ?_;exact ⟨_,_,_,_,_,_,_,_,rfl,(i16.t zt).as ((fw (Int.natAbs_eq_zero.1 (jx.2.zero.1 zo)) (Int.natAbs_eq_zero.1 (jy.2.zero.1 zo))).1.symm),(UI.zero _ _).as ((fw (Int.natAbs_eq_zero.1 (jx.2.zero.1 zo)) (Int.natAbs_eq_zero.1 (jy.2.zero.1 zo))).2.symm)⟩
  refine zG ?_;refine zl [0,1,0,4,15,0,63,0,255,511,1023,2047] rfl ?_;refine zH ?_;refine dC (mulU _ (ix.t zt) (iy.t zt) szU szU) ?_;rintro _ h18 n18 ⟨b18,a18,l18,c18,rfl,i18⟩ y18 x18;refine zH ?_;refine dC (denU _ (ix.t zt) (jx.t zt)) ?_;rintro _ h19 n19 ⟨b19,a19,l19,c19,rfl,i19⟩ y19 x19;refine zH ?_;refine dC (denU _ (iy.t zt) (jy.t zt)) ?_;rintro _ h20 n20 ⟨b20,a20,l20,c20,rfl,i20⟩ y20 x20;refine dC (mulU _ (i19.t zt) i20 szU szU) ?_;rintro _ h21 n21 ⟨b21,a21,l21,c21,rfl,i21⟩ y21 x21;refine dC (mg _ (i18.t zt) i21 szU szU (fZ x y) (mu x y)) ?_;rintro _ h22 n22 ⟨b22,a22,l22,c22,d22,e22,f22,g22,rfl,i22,j22⟩ y22 x22;refine dS [.bool b22,.slice a22 l22 c22,.bool d22,.slice e22 f22 g22] ?_;intro h23 p23 o23;refine zq ?_;exact ⟨_,_,_,_,_,_,_,_,rfl,(i22.t zt),(j22.t zt)⟩
 refine zG ?_;refine zl [0,1,0,4,15,0,63,0,255,511,1023,2047] rfl ?_;refine zH ?_;refine dC (mulU _ (ix.t zt) (iy.t zt) szU szU) ?_;rintro _ h24 n24 ⟨b24,a24,l24,c24,rfl,i24⟩ y24 x24;refine zH ?_;refine dC (denU _ (ix.t zt) (jx.t zt)) ?_;rintro _ h25 n25 ⟨b25,a25,l25,c25,rfl,i25⟩ y25 x25;refine zH ?_;refine dC (denU _ (iy.t zt) (jy.t zt)) ?_;rintro _ h26 n26 ⟨b26,a26,l26,c26,rfl,i26⟩ y26 x26;refine dC (mulU _ (i25.t zt) i26 szU szU) ?_;rintro _ h27 n27 ⟨b27,a27,l27,c27,rfl,i27⟩ y27 x27;refine dC (mg _ (i24.t zt) i27 szU szU (fZ x y) (mu x y)) ?_;rintro _ h28 n28 ⟨b28,a28,l28,c28,d28,e28,f28,g28,rfl,i28,j28⟩ y28 x28;refine dS [.bool b28,.slice a28 l28 c28,.bool d28,.slice e28 f28 g28] ?_;intro h29 p29 o29;refine zq ?_;exact ⟨_,_,_,_,_,_,_,_,rfl,(i28.t zt),(j28.t zt)⟩
theorem zmf (k:Nat){x:Rat}(ix:UI h n sx ax lx cx x.num)(jx:UI h n dx ex fx gx (denZ x)):CX (cal (k+3)) 69 [.agg #[.bool sx,.slice ax lx cx,.bool dx,.slice ex fx gx]] h n (NQ (-x)):=by
 refine zk (fn:=Tryz.f69) R4 ?_;refine zG ?_;refine sB [.bool sx,.slice ax lx cx,.bool dx,.slice ex fx gx] ?_;intro h11 p11 x11;refine sA ?_;intro h12 p12 x12;refine zG ?_;refine zl [0,1,3,0,8,31,63] rfl ?_;refine zH ?_;refine dC (zmm _ (ix.t zt)) ?_;rintro _ h13 n13 ⟨b13,a13,l13,c13,rfl,i13⟩ y13 x13;refine zH ?_;refine dT #[.bool b13,.slice a13 l13 c13,.bool dx,.slice ex fx gx] ?_;refine dS [.bool b13,.slice a13 l13 c13,.bool dx,.slice ex fx gx] ?_;intro h14 p14 o14;refine zq ?_;exact ⟨_,_,_,_,_,_,_,_,rfl,(i13.t zt).as ((Rat.neg_num x).symm),(jx.t zt).as (by unfold denZ;rw [Rat.neg_den])⟩
theorem zkk (k:Nat){x:Rat}{y:Rat}(ix:UI h n sx ax lx cx x.num)(jx:UI h n dx ex fx gx (denZ x))(iy:UI h n sy ay ly cy y.num)(jy:UI h n dy ey fy gy (denZ y)){a:Nat}(hx:Sz a x)(hy:Sz b y)(hab:a+b+1≤32):CX (cal (k+7)) 28 [.agg #[.bool sx,.slice ax lx cx,.bool dx,.slice ex fx gx],.agg #[.bool sy,.slice ay ly cy,.bool dy,.slice ey fy gy]] h n (NQ (x-y)):=by
 refine zk (fn:=Tryz.f28) R4 ?_;refine zG ?_;refine sB [.bool sx,.slice ax lx cx,.bool dx,.slice ex fx gx] ?_;intro h11 p11 x11;refine sB [.bool sy,.slice ay ly cy,.bool dy,.slice ey fy gy] ?_;intro h12 p12 x12;refine sA ?_;intro h13 p13 x13;refine zG ?_;refine zl [0,0,2,7,15] rfl ?_;refine zH ?_;refine dC (zmf _ (iy.t zt) (jy.t zt)) ?_;rintro _ h14 n14 ⟨b14,a14,l14,c14,d14,e14,f14,g14,rfl,i14,j14⟩ y14 x14;refine dC (dp _ (ix.t zt) (jx.t zt) i14 j14 hx hy.neg hab) ?_;rintro _ h15 n15 ⟨b15,a15,l15,c15,d15,e15,f15,g15,rfl,i15,j15⟩ y15 x15;refine dS [.bool b15,.slice a15 l15 c15,.bool d15,.slice e15 f15 g15] ?_;intro h16 p16 o16;refine zq ?_;exact ⟨_,_,_,_,_,_,_,_,rfl,(i15.t zt).as (by rw [Rat.sub_eq_add_neg]),(j15.t zt).as (by rw [Rat.sub_eq_add_neg])⟩
theorem numU (k:Nat)(h:HF)(n:Nat)(s:List UInt8)(hs:s.length<11):CX (cal (k+7)) 35 [.string ⟨⟨s⟩⟩] h n (NQ (z0 s)):=by
 refine zk (fn:=Tryz.f35) R4 ?_;refine zG ?_;refine sA ?_;intro h11 p11 x11;refine zG ?_;refine sC (zf9 _ _ _ s hs) ?_;rintro _ h12 n12 ⟨b12,a12,l12,c12,d12,e12,f12,g12,ok12,q12,rfl,i12,j12,m12,z12⟩ y12 x12;cases ok12
 ·refine zG ?_;refine sA ?_;intro h13 p13 x13;refine sS [.bool b12,.slice a12 l12 c12,.bool d12,.slice e12 f12 g12] ?_;intro h14 p14 o14;refine zG ?_;refine sT #[.bool false,.slice none 0 0,.bool false,.slice none 0 0] ?_;refine sS [.bool false,.slice none 0 0,.bool false,.slice none 0 0] ?_;intro h15 p15 o15;refine zq ?_;exact (ul (fun hq=>by cases z12 hq)).symm▸NQ.zero _ _
 refine zG ?_;refine sA ?_;intro h16 p16 x16;refine sS [.bool b12,.slice a12 l12 c12,.bool d12,.slice e12 f12 g12] ?_;intro h17 p17 o17;refine zG ?_;refine sS [.bool b12,.slice a12 l12 c12,.bool d12,.slice e12 f12 g12] ?_;intro h18 p18 o18;refine zq ?_;exact (rp (m12 rfl)).symm▸⟨_,_,_,_,_,_,_,_,rfl,(i12.t zt),(j12.t zt)⟩
end
end Go.Proofs.YtfajmfoofmienaaGreatDoor
