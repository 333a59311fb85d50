import Derived.Below
import Derived.Test.YtfajmfoofmienaaGreatDoorRows
import Derived.ChangeSame
import Derived.ChangeVars
import Derived.ChangeSlices
import Derived.JoinedOf
import Derived.RowKit
import Derived.RowKitTokens
import Derived.LaidLaws
import Derived.Carry
import Derived.Handed
import Derived.Deep.Slices
import Derived.Test.YtfajmfoofmienaaGreatDoorTie
import Derived.Test.YtfajmfoofmienaaGreatDoorCards
import Derived.Test.YtfajmfoofmienaaGreatDoorValE
set_option maxHeartbeats 8000000
set_option linter.unusedVariables false
set_option linter.unusedSimpArgs false
namespace Go.Proofs.YtfajmfoofmienaaGreatDoor
open Go Go.GL
variable {ρ ρ':Ren}{b l m n:Nat}{e:TypeId}
section
variable {α β:Type}{B D L cap i m sz:Nat}{ar:Option Addr}
theorem Rec.unmap {P:List Value→β→Prop}{P':List Value→α→Prop}{f:α→β}:∀{l:List α} {C:List Value},Rec sz P C (l.map f)→(∀c x,x∈l→P c (f x)→P' c x)→Rec sz P' C l:=by
 intro l;induction l with
 |nil=>intro C r _;cases r;exact .nil
 |cons x l ih=>
  intro C r h;cases r with
  |cons hl hp hr=>exact .cons hl (h _ x List.mem_cons_self hp) (ih hr fun c y hy=>h c y (List.mem_cons_of_mem _ hy))
theorem bO {N:Nat}{a:Nat→Nat→Rat}(hi:i<N)(f:Rat→α):((tabL N a).take (i*N)).map f++(rowQ N a i).map f=((tabL N a).take ((i+1)*N)).map f:=by
 rw [←List.map_append,←mH hi,←List.take_add,Nat.succ_mul]
section
variable {N P:Nat}{a:Nat→Nat→Rat}{h:HF}{n:Nat}{aE:Option Addr}{cE:Nat}
theorem zkl (k:Nat)(hN:1≤N∧N≤3)(s:Sl h n 1 (.slice aE (N*N) cE) (strs ((tabL N a).map ratT)))(hP:∀i j,i<N→j<N→Sz P (a i j))(hP2:P≤4):
  CX (cal (k+8)) 97 [.agg #[.int .i64 (N:Int),.int .i64 (N:Int),.slice aE (N*N) cE]] h n fun v h' n'=>∃ar,v=.tuple #[.slice ar N N,.bool true]∧RD h' n' (.slice ar N N) N a:=by
 have h9:=sq9 hN.2;have h1N:1≤N*N:=Nat.mul_pos hN.1 hN.1;refine zk (fn:=Tryz.f97) R4 ?_;refine zG ?_;refine sB [.int .i64 (N:Int),.int .i64 (N:Int),.slice aE (N*N) cE] ?_;intro h1 p1 x1;refine zG ?_;refine sMu N N zo ?_;refine zG ?_;refine sC (zh7 _ (s.ext x1 zs) (fun s hs=>by
  obtain ⟨i,j,hi,hj,rfl⟩:=gU hs;exact wp ((hP i j hi hj).mono zo)) (by rw [List.length_map,yO];omega)) ?_
 rintro _ h2 n2 ⟨a2,l2,c2,ok,rfl,hok,hq⟩ y2 x2;have ht:ok=true:=hok.2 (fun s hs=>by
  obtain ⟨q,_,rfl⟩:=List.mem_map.1 hs;exact ⟨q,rfl⟩)
 subst ht;have hq:=hq rfl;rw [gR] at hq;have ll:=hq.len;rw [yO] at ll;subst ll;obtain ⟨cells,sl,rc⟩:=hq;obtain ⟨b,off,xb,cs,rfl,hb,hx,hc,hcap,hle,he⟩:=sl.inv zo;have hq:NS h2 n2 (.slice (some ⟨b,off,none⟩) (N*N) c2) (tabL N a):=⟨cells,sl,rc⟩;refine zG ?_;refine sMk (L:=N) [.slice none 0 0] ?_ zo;intro h3 p3 x3;refine zG ?_;have o3:OR 1 vlP h3 (n2+1) (3*n2+2) (List.replicate N (.slice none 0 0)):=OR.fill zo p3 vlP.kp ⟨rfl,rfl,rfl⟩;have q1:h3 (3*n+2)=_:=(x3 (3*n+2) zo).trans ((x2 (3*n+2) zo).trans p1);have E3:Ex0 n h h3:=⟨fun c hc=>(x3 c zo).trans ((x2 c zo).trans (x1 c hc))⟩;obtain ⟨tb,htb⟩:∃b,b=3*n2+2:=⟨_,rfl⟩;have E23:Ex0 n2 h2 h3:=⟨x3⟩;rw [←htb] at o3 ⊢;clear p3 x1 x2 x3 p1;have hlr:(List.range N).length=N:=List.length_range;refine sF (α:=Nat) (fun z=>[(1,.pointer (some ⟨3*n+2,0,none⟩)),(4,.slice (some ⟨b,off,none⟩) (N*N) c2),(6,.slice (some ⟨tb,0,none⟩) N N),(7,.int .i64 (z:Int))])
  (fun z h' n' w'=>w'=[]∧n2+1=n'∧Ex0 n h h'∧Ex0 n2 h2 h'∧h' (3*n+2)=h3 (3*n+2)∧OR 1 vlP h' n' tb (((List.range N).take z).map (fun i=>Value.slice (some ⟨b,off+i*N*4,none⟩) N (c2-i*N))++List.replicate ((List.range N).length-z) (.slice none 0 0))∧z≤N) (fun z=>N-z) 0 ⟨rfl,rfl,E3,E23,rfl,o3.as (by rw [List.take_zero,Nat.sub_zero,hlr];rfl),Nat.zero_le _⟩ ?_
 rintro j t h4 _ _ ⟨rfl,rfl,E4,E24,q4,o4,hj⟩;have hj:j≤N:=hj;have o4:OR 1 vlP h4 (n2+1) tb (((List.range N).take j).map (fun i=>Value.slice (some ⟨b,off+i*N*4,none⟩) N (c2-i*N))++List.replicate ((List.range N).length-j) (.slice none 0 0)):=o4;have q41:=q4.trans q1;refine zG ?_;by_cases qj:(j:Int)<(N:Int)
 ·have hjN:j<N:=zo;have hrow:=nW hjN;have hjN2:j*N<N*N:=zo;have hs1:(j+1)*N=j*N+N:=Nat.succ_mul _ _;refine zG ?_;refine sMu j N zo ?_;refine zG ?_;refine sMu (j+1) N zo ?_;refine sU (j*N) ((j+1)*N) R9 rfl rfl ⟨zo,zo,zo⟩ ?_;rw [show (j+1)*N-j*N=N by omega];refine sI (j:=j) (len:=N) rfl hjN ?_;refine sZn (n0:=n) (j:=j) (q:=Value.slice (some ⟨b,off+j*N*4,none⟩) N (c2-j*N)) [.slice (some ⟨b,off+j*N*4,none⟩) N (c2-j*N)] o4 vlP.kp (by rw [List.length_append,List.length_map,List.length_take,List.length_replicate,hlr];omega) (show (0:Nat)+j*1=j*1 by omega) ⟨rfl,rfl,rfl⟩ zo ?_;intro h5 o5 s5;refine zG ?_;exact sK (j+1) ⟨rfl,rfl,⟨fun c hc=>(s5.1 c zo).trans (E4.e c hc)⟩,⟨fun c hc=>(s5.1 c zo).trans (E24.e c hc)⟩,(s5.1 _ zo).trans q4,o5.as (lT (List.range N) (fun i=>Value.slice (some ⟨b,off+i*N*4,none⟩) N (c2-i*N)) (.slice none 0 0) (List.getElem?_range hjN)),by show j+1≤N;omega⟩
 have hjN:j=N:=zo;subst hjN;have o6:OR 1 vlP h4 (n2+1) tb ((List.range j).map fun i=>Value.slice (some ⟨b,off+i*j*4,none⟩) j (c2-i*j)):=o4.as (by rw [List.take_of_length_le (by rw [hlr];exact Nat.le_refl _),hlr,Nat.sub_self];exact List.append_nil _);refine zG ?_;have X4:=E4.e;refine zq ?_;refine ⟨_,rfl,?_⟩;obtain ⟨C,sC,rC⟩:=OR.sl o6 (len:=j) (cap:=j) (by rw [List.length_map,hlr]) (Nat.le_refl _);refine ⟨C,sC,rC.unmap fun c x hx hp=>?_⟩;have hxN:=List.mem_range.1 hx;have hrow:=nW hxN;refine ⟨_,_,hp.1,?_⟩;rw [←mH hxN];exact NS.ext (RS.sub zd hq (m:=x*j) (c:=j) zo zo) E24.e zs
end
theorem zjq (k:Nat){h:HF}{n:Nat}{a:Option Addr}{ds:List MD}{M:Nat→Nat→Nat→Rat}(m:MS h n (.slice a L cap) ds M){P:Nat}(o:MOk P D B ds M)(hl:ds.length<1000000):
  VF (cal (k+10)) 57 [.slice a L cap] h n fun v=>∃ok:Bool,v=.bool ok∧(ok=true↔∀k d,ds[k]?=some d→psdA d.n d.n 0 (M k)):=by
 have lm:L=ds.length:=m.r.len' zd;refine zw (fn:=Tryz.f57) R4 ?_;refine zG ?_;refine sF (α:=Nat) (fun z=>[(7,.slice a L cap),(8,.int .i64 (L:Int)),(9,.int .i64 (z:Int))])
  (fun z h' n' w'=>w'=[]∧n≤n'∧Ext n h h'∧z≤L∧∀k d,k<z→ds[k]?=some d→psdA d.n d.n 0 (M k)) (fun z=>L-z) 0 ⟨rfl,Nat.le_refl _,Ext.refl _ _,Nat.zero_le _,fun k d hk=>absurd hk (Nat.not_lt_zero _)⟩ ?_
 rintro j t h1 n1 _ ⟨rfl,y1,x1,hj,hall⟩;have y1:n≤n1:=y1;have x1:Ext n h h1:=x1;have hj:j≤L:=hj;have hall:∀k d,k<j→ds[k]?=some d→psdA d.n d.n 0 (M k):=hall;refine zG ?_;by_cases qj:(j:Int)<(L:Int)
 ·refine zG ?_;obtain ⟨d,hd⟩:∃d,ds[j]?=some d:=⟨_,List.getElem?_eq_getElem zo⟩;obtain ⟨b2,o2,c2,e2,m2,r2,t2,_,f2⟩:=RS.at' zd (m.ext x1 y1).r hd;have f2:c2=[.int .i64 (d.n:Int),.int .i64 (d.n:Int),.slice d.a (d.n*d.n) d.c]:=f2;subst f2;have hN:=o.hn _ _ hd;refine sI e2 r2 ?_;refine sL t2 m2 0 ?_;refine sA ?_;intro h3 p3 x3;refine zG ?_;refine sS [.int .i64 (d.n:Int),.int .i64 (d.n:Int),.slice d.a (d.n*d.n) d.c] ?_;intro h4 p4 o4;refine zG ?_;refine sC (zkl (k+1) hN ((m.t _ _ hd).ext (zx:Tx n h _ _).2 zo) (fun i j' hi hj'=>FN.sz (o.hB _ _ hd i j' hi hj') o.D0 o.D2 o.B2) o.P2) ?_;rintro _ h5 n5 ⟨ar,rfl,r5⟩ y5 x5;refine zG ?_;refine sC (zca k r5 hN o.P1 o.P2 o.D0 o.D2 (o.hB _ _ hd) o.B2).cx ?_;rintro _ h6 n6 ⟨ok,rfl,hok⟩ y6 x6;cases ok with
  |false=>
   refine zG ?_;refine zf ?_;exact ⟨_,rfl,fun h=>(by cases h),fun h=>absurd (hok.2 (h _ _ hd)) (by simp)⟩
  |true=>
   refine zG ?_;exact sK (j+1) ⟨rfl,zo,(zx:Tx n h _ _).2,by show j+1≤L;omega,fun k d' hk hd'=>by
    rcases Nat.lt_or_ge k j with hk2|hk2
    ·exact hall k d' hk2 hd'
    ·have:k=j:=by have:k<j+1:=hk;omega
     subst this;rw [hd] at hd';cases hd';exact hok.1 rfl⟩
 refine zG ?_;refine zf ?_;exact ⟨_,rfl,fun _ k d hd=>hall k d (by have:=(List.getElem?_eq_some_iff.1 hd).1;omega) hd,fun _=>rfl⟩
theorem zkx (k:Nat){h:HF}{n:Nat}{N:Nat}{a:Nat→Nat→Rat}(r:RD h n (.slice ar N cap) N a)(hN:1≤N∧N≤3)(hz:∀i j,i<N→j<N→Sz m (a i j))(hm:m≤32):
  CX (cal (k+6)) 68 [.slice ar N cap] h n fun v h' n'=>∃b,v=.agg #[.int .i64 (N:Int),.int .i64 (N:Int),.slice (some ⟨b,0,none⟩) (N*N) (N*N)]∧3*n≤b∧OT h' n' b ((tabL N a).map ratT):=by
 have h9:=sq9 hN.2;have h1N:1≤N*N:=Nat.mul_pos hN.1 hN.1;refine zk (fn:=Tryz.f68) R4 ?_;refine zG ?_;refine sA ?_;intro h1 p1 x1;refine zG ?_;obtain ⟨b2,o2,a2,c2,e2,m2,r2,t2,s2⟩:=r.at hN.1;refine sI (j:=0) e2 r2 ?_;refine sL t2 m2 0 ?_;refine zG ?_;refine sT #[.int .i64 (N:Int),.int .i64 (N:Int),.slice none 0 0] ?_;refine sA ?_;intro h3 p3 x3;refine sS [.int .i64 (N:Int),.int .i64 (N:Int),.slice none 0 0] ?_;intro h4 p4 o4;have E4:Ex0 (n+1) h1 h4:=⟨fun c hc=>(o4.1 c zo).trans (x3 c zo)⟩;obtain ⟨z4,q4⟩:∃e,h4 (3*n+2)=some (.row [.int .i64 0,.int .i64 0,.slice none 0 0] e):=⟨_,(E4.e _ zo).trans p1⟩;have E04:Ex0 n h h4:=⟨fun c hc=>(E4.e c zo).trans (x1 c hc)⟩;clear x1 p1 x3 p3 o4 t2;obtain ⟨lo,hlo⟩:∃lo,lo=n+1+1:=⟨_,rfl⟩;rw [←hlo];refine zG ?_;refine sF (α:=Nat×Value) (fun z=>[(0,.slice ar N cap),(2,.pointer (some ⟨3*n+2,0,none⟩)),(3,.pointer (some ⟨3*(n+1)+2,0,none⟩)),(4,.int .i64 (z.1:Int))])
  (fun z h' n' w'=>w'=[]∧lo≤n'∧Ex0 n h h'∧h' (3*n+2)=some (.row [.int .i64 0,.int .i64 0,.slice none 0 0] z4)∧(∃e,h' (3*(n+1)+2)=some (.row [.int .i64 (N:Int),.int .i64 (N:Int),z.2] e))∧GR 1 strP lo h' n' 9 z.2 (((tabL N a).take (z.1*N)).map ratT)∧z.1≤N) (fun z=>N-z.1)
  (0,.slice none 0 0) ⟨rfl,Nat.le_refl _,E04,q4,⟨_,p4⟩,by show GR _ _ _ _ _ _ _ (((tabL N a).take (0*N)).map ratT);rw [Nat.zero_mul,List.take_zero];exact GR.nil,Nat.zero_le _⟩ ?_
 rintro ⟨i,v⟩ t h5 n5 _ ⟨rfl,y5,E5,q5,⟨e5,p5⟩,g5,hi⟩;have y5:lo≤n5:=y5;have hi:i≤N:=hi;have p5:h5 (3*(n+1)+2)=some (.row [.int .i64 (N:Int),.int .i64 (N:Int),v] e5):=p5;have g5:GR 1 strP lo h5 n5 9 v (((tabL N a).take (i*N)).map ratT):=g5;have hiM:i*N≤N*N:=Nat.mul_le_mul_right _ hi;have hl5:(((tabL N a).take (i*N)).map ratT).length=i*N:=by rw [List.length_map,List.length_take,yO];omega
 obtain ⟨av,rfl⟩:=g5.shape hl5;refine zG ?_;by_cases qi:(i:Int)<(N:Int)
 ·have hiN:i<N:=zo;obtain ⟨b6,o6,a6,c6,e6,m6,r6,t6,s6⟩:=(r.ext E5.e (show n≤n5 by omega)).at hiN;refine zG ?_;refine zl [0,1,0,0,12,28,60,127,255,511] rfl ?_;refine zH ?_;refine dI (j:=i) e6 r6 ?_;refine dL t6 m6 0 ?_;refine dC (bK _ s6 zo (fun q hq=>by
   obtain ⟨j,hj,rfl⟩:=List.mem_map.1 hq;exact hz i j hiN (List.mem_range.1 hj)) hm) ?_
  rintro _ h7 n7 ⟨b7,rfl,f7,o7⟩ y7 x7;have hl7:((rowQ N a i).map ratT).length=N:=by rw [List.length_map,xP]
  obtain ⟨e7,p7⟩:=o7.row;have hx7:argS h7 1 (.slice (some ⟨b7,0,none⟩) N N) ((rowQ N a i).map ratT).length (strs ((rowQ N a i).map ratT)):=by
   rw [hl7];exact yy p7 ⟨rfl,(by rw [strs_len1,hl7])⟩
  refine dGm (n0:=n) (strs ((rowQ N a i).map ratT)) ((rowQ N a i).map ratT) (g5.go strP.kp ⟨y7,fun c hc=>.inl (x7 c hc)⟩ (fun b hb=>x7 b (g5.bk b hb).2.1)) strP.kp (Rec.ofStrs _ _ _) ⟨Rec.allnu strP.kp (Rec.ofStrs ((rowQ N a i).map ratT) h7 n7),ones_strs _⟩ hx7 (by rw [hl7];exact hN.1) (by rw [hl5,hl7];omega) zo ?_;intro v8 h8 W8 g8 T8 X8 K8 F8;have g8:GR 1 strP lo h8 (n7+1) 9 v8 (((tabL N a).take ((i+1)*N)).map ratT):=g8.as (bO hiN ratT);have hi1M:(i+1)*N≤N*N:=Nat.mul_le_mul_right _ hiN;have hl8:(((tabL N a).take ((i+1)*N)).map ratT).length=(i+1)*N:=by rw [List.length_map,List.length_take,yO];omega
  obtain ⟨a8,rfl⟩:=g8.shape hl8;have nb:∀k,¬BkOf (.slice av (i*N) (i*N)) (3*k+2):=fun k hb=>qO (g5.bk _ hb).2.2.1 rfl;have p8:=(X8 (3*(n+1)+2) zo).trans ((x7 (3*(n+1)+2) zo).trans p5);have q8:=(X8 (3*n+2) zo).trans ((x7 (3*n+2) zo).trans q5);have E8:Ex0 n h h8:=⟨fun c hc=>(X8 c zo).trans ((x7 c zo).trans (E5.e c hc))⟩;clear X8 x7 T8 K8;refine zH ?_;refine dSx (n0:=n) [.int .i64 (N:Int),.int .i64 (N:Int),.slice a8 ((i+1)*N) ((i+1)*N)] p8 ?_;intro h9 p9 s9;rw [xv (show 3*n≤3*(n+1)+2 by omega)];refine zG ?_;exact sK (i+1,.slice a8 ((i+1)*N) ((i+1)*N)) ⟨rfl,zo,⟨fun c hc=>(s9.1 c zo).trans (E8.e c hc)⟩,(s9.1 _ zo).trans q8,⟨_,p9⟩,g8.go strP.kp (Tr.s s9 (Tr.refl _ _)) (fun b hb=>s9.1 b (by have:=(g8.bk b hb).1;omega)),by show i+1≤N;omega⟩
 have hiN:i=N:=zo;subst hiN;obtain ⟨b,eb,hg,hlo2,o6,_⟩:=g5.or hl5 zo;injection eb with eb
 subst eb;rw [List.take_of_length_le (by rw [yO];exact Nat.le_refl _)] at o6;have X5:Ext n h h5:=E5.e;have y55:n≤n5:=zo;have hb6:=o6.1;refine zG ?_;refine sS [.int .i64 (i:Int),.int .i64 (i:Int),.slice (some ⟨b,0,none⟩) (i*i) (i*i)] ?_;intro h7 p7 s7;refine zq ?_;exact ⟨b,rfl,zo,o6.go strP.kp (Tr.s s7 (Tr.refl _ _)) (s7.1 b zo)⟩
end
section
def zmu (rbs:List (List Nat))(c:Nat):Prop:=∃(k:Nat) (rb:List Nat),rbs[k]?=some rb∧c∈rb
structure RMs (h:HF)(n bS:Nat)(Ns tbs:List Nat)(rbs:List (List Nat))(M:Nat→Nat→Nat→Rat):Prop where
 s:OR 1 vlP h n bS (List.zipWith slN Ns tbs)
 m:∀(k N tb:Nat) (rb:List Nat),Ns[k]?=some N→tbs[k]?=some tb→rbs[k]?=some rb→RM h n tb N rb (M k)
 l:tbs.length=Ns.length∧rbs.length=Ns.length
 d:∀(k k':Nat) (rb rb':List Nat),k≠k'→rbs[k]?=some rb→rbs[k']?=some rb'→∀b∈rb,b∉rb'
 o:∀b,zmu rbs b→b∉tbs∧b≠bS
section
variable {h h':HF}{n n' bS:Nat}{Ns tbs:List Nat}{rbs:List (List Nat)}{M M':Nat→Nat→Nat→Rat}
end
theorem fN (k:Nat)(h:HF)(n:Nat)(x:Int)(hx: -9223372036854775808≤x∧x<9223372036854775808):CX (cal (k+2)) 73 [.int .i64 x] h n (UIV x):=by
 refine yh (ql k h n x hx) ?_;rintro _ h' n' w ⟨h1,h2,h3,c1,c2,L,rfl,r,_⟩;obtain ⟨b,a,l,c,rfl,rfl,i⟩:=r.ui;exact ⟨h1,h2,h3,_,_,_,_,rfl,i⟩
theorem fg {x:Int}(h:x.natAbs<2^8):x.natAbs<BX:=wO h zd
end
section
def NumR (q:Rat):Prop:=∃x y:Int,-9≤x∧x≤9∧1≤y∧y≤4∧q=Rat.divInt x y
theorem zd7:∀a:Fin 19,∀b:Fin 4,((Rat.divInt ((a.val:Int)-9) ((b.val:Int)+1)).num.natAbs<2^4∧(Rat.divInt ((a.val:Int)-9) ((b.val:Int)+1)).den<2^4)∧(ratT (Rat.divInt ((a.val:Int)-9) ((b.val:Int)+1))).length≤40:=by decide+kernel
theorem NumR.ok {q:Rat}(h:NumR q):Sz 4 q∧(ratT q).length≤40:=by
 obtain ⟨x,y,h1,h2,h3,h4,rfl⟩:=h;have:=zd7 ⟨(x+9).toNat,zo⟩ ⟨(y-1).toNat,zo⟩;rw [show (((⟨(x+9).toNat,zo⟩:Fin 19).val:Int)-9)=x by show (((x+9).toNat:Nat):Int)-9=x;omega,show (((⟨(y-1).toNat,zo⟩:Fin 4).val:Int)+1)=y by show (((y-1).toNat:Nat):Int)+1=y;omega] at this;exact this
theorem Tp.tr {h h':HF}{T:TapeI}{n:Nat}(t:Tp h T)(hx:∀b,b≠T.bt→h' b=h b):Tr n h n h':=⟨Nat.le_refl _,fun c _=>by
 by_cases hb:c=T.bt
 ·subst hb;obtain ⟨pos,e,hrow,_⟩:=t.row;exact .inr (.row hrow rfl)
 ·exact .inl (hx c hb)⟩
section
variable {h:HF}{n:Nat}{T:TapeI}
theorem numX (k:Nat)(ht:Tp h T)(hn:T.m≤n):CF (cal (k+6)) 43 [.pointer (some ⟨T.bt,0,none⟩)] h n fun v h' n' w=>TLeft T h n h' n' w∧∃b a l c d e f g q,v=.agg #[.bool b,.slice a l c,.bool d,.slice e f g]∧UI h' n' b a l c q.num∧UI h' n' d e f g (denZ q)∧NumR q:=by
 have hbt:=ht.bt;refine zk (fn:=Tryz.f43) R4 ?_;refine zG ?_;refine sA ?_;intro h1 p1 x1;refine zG ?_;refine zu _ R5 (um (k+4) (m:=19) zd (ht.ext x1 hn) (show T.m≤n+1 by omega)) ?_;rintro _ h2 _ w2 ⟨hw2,rfl,ht2,hx2,r,rfl,hr0,hr1⟩;have o2:Only T.bt h1 h2:=hx2;refine zG ?_;refine sC (fN _ _ _ (r-9) zo) ?_;rintro _ h3 n3 ⟨b3,a3,l3,c3,rfl,i3⟩ y3 x3;have ht3:Tp h3 T:=ht2.ext x3 (show T.m≤n+1 by omega);refine zG ?_;refine zu _ R5 (um (k+4) (m:=4) zd ht3 (show T.m≤n3 by omega)) ?_;rintro _ h4 n3 w4 ⟨hw4,rfl,ht4,hx4,s,rfl,hs0,hs1⟩;have o4:Only T.bt h3 h4:=hx4;refine zG ?_;refine sC (fN _ _ _ (1+s) zo) ?_;rintro _ h5 n5 ⟨b5,a5,l5,c5,rfl,i5⟩ y5 x5;have i35:=(i3.t (ht3.tr (n:=n3) hx4)).t ⟨y5,fun c hc=>.inl (x5 c hc)⟩;refine sC (mg _ i35 i5 (fg zo) (fg zo) zo (q:=Rat.divInt (r-9) (1+s)) rfl) ?_;rintro _ h6 n6 ⟨b6,a6,l6,c6,d6,e6,f6,g6,rfl,i6,j6⟩ y6 x6;have q6:h6 (3*n+2)=_:=(x6 _ zo).trans ((x5 _ zo).trans ((o4 _ zo).trans ((x3 _ zo).trans ((o2 _ zo).trans p1))));refine sSx (n0:=n) [.bool b6,.slice a6 l6 c6,.bool d6,.slice e6 f6 g6] q6 ?_;intro h7 p7 s7;rw [xv (show 3*n≤3*n+2 by omega)];have hx56:∀c,c<3*n→c≠T.bt→h7 c=h c:=fun c hc hb=>(s7.1 c zo).trans ((x6 c zo).trans ((x5 c zo).trans ((o4 c hb).trans ((x3 c zo).trans ((o2 c hb).trans (x1 c hc))))));have ht6:Tp h6 T:=(ht4.ext x5 (show T.m≤n3 by omega)).ext x6 (show T.m≤n5 by omega);have ht7:Tp h7 T:=ht6.ext (n:=T.m) (fun c hc=>s7.1 c zo) (Nat.le_refl _);have i7:UI h7 n6 b6 a6 l6 c6 (Rat.divInt (r-9) (1+s)).num:=i6.t (Tr.s s7 (Tr.refl _ _));have j7:UI h7 n6 d6 e6 f6 g6 (denZ (Rat.divInt (r-9) (1+s))):=j6.t (Tr.s s7 (Tr.refl _ _));refine zG ?_;refine yP R5 p7 rfl ⟨⟨?_,zo,ht7,hx56⟩,_,_,_,_,_,_,_,_,_,rfl,i7,j7,r-9,1+s,zo,zo,zo,zo,rfl⟩;exact z9 hw4 (z9 hw2 (fun b hb=>absurd hb List.not_mem_nil))
theorem zml (k:Nat)(ht:Tp h T)(hn:T.m≤n){N:Nat}(hN:N≤1000):CF (cal (k+7)) 12 [.pointer (some ⟨T.bt,0,none⟩),.int .i64 (N:Int)] h n fun v h' n' w=>TLeft T h n h' n' w∧∃a qs,v=.slice a N N∧qs.length=N∧(∀q∈qs,NumR q)∧NS h' n' v qs:=by
 have hbt:=ht.bt;refine zk (fn:=Tryz.f12) R4 ?_;refine zG ?_;refine sF (α:=Nat×List Rat×Value) (fun z=>[(0,.pointer (some ⟨T.bt,0,none⟩)),(1,.int .i64 (N:Int)),(5,z.2.2),(6,.int .i64 (z.1:Int))])
  (fun z h' n' w'=>TLeft T h n h' n' w'∧z.1≤N∧z.2.1.length=z.1∧(∀q∈z.2.1,NumR q)∧GR 4 numP n h' n' 51 z.2.2 z.2.1) (fun z=>N-z.1)
  (0,[],.slice none 0 0) ⟨⟨fun b hb=>absurd hb List.not_mem_nil,Nat.le_refl _,ht,ExtT.refl _ _ _⟩,Nat.zero_le _,rfl,fun q hq=>absurd hq List.not_mem_nil,GR.nil⟩ ?_
 rintro ⟨j,qs,v⟩ t h2 n2 w2 ⟨⟨hw2,y2,ht2,hx2⟩,hj,lj,hq2,g2⟩;have lj:qs.length=j:=lj;subst lj;have y2:n≤n2:=y2;have hj:qs.length≤N:=hj;have hq2:∀q∈qs,NumR q:=hq2;have g2:GR 4 numP n h2 n2 51 v qs:=g2;obtain ⟨av,rfl⟩:=g2.shape rfl;refine zG ?_;by_cases qj:(qs.length:Int)<(N:Int)
 ·refine zG ?_;refine zu _ R5 (numX k ht2 (show T.m≤n2 by omega)) ?_;rintro _ h3 n3 w3 ⟨⟨hw3,y3,ht3,hx3⟩,b,a,l,c,d,e,f,g,q,rfl,i3,j3,hq⟩;have T3:Tr n2 h2 n3 h3:=⟨y3,fun c hc=>by
   by_cases hb:c=T.bt
   ·subst hb;obtain ⟨pos,e,hrow,_⟩:=ht2.row;exact .inr (.row hrow rfl)
   ·exact .inl (hx3 c hc hb)⟩
  refine zG ?_;refine sMs [.bool b,.slice a l c,.bool d,.slice e f g] ?_;intro h6 p6 x6;have g6:GR 4 numP n h6 (n3+1) 51 (.slice av qs.length qs.length) qs:=(g2.go numP.kp T3 (fun b hb=>hx3 b (g2.bk b hb).2.1 (by have:=(g2.bk b hb).1;omega))).go numP.kp ⟨Nat.le_succ _,fun c hc=>.inl (x6 c hc)⟩ (fun b hb=>x6 b (by have:=(g2.bk b hb).2.1;omega));have i6:UI h6 (n3+1) b a l c q.num:=i3.t ⟨Nat.le_succ _,fun c hc=>.inl (x6 c hc)⟩;have j6:UI h6 (n3+1) d e f g (denZ q):=j3.t ⟨Nat.le_succ _,fun c hc=>.inl (x6 c hc)⟩;refine sGA (n0:=n) [.bool b,.slice a l c,.bool d,.slice e f g] [q] g6 numP.kp (.cons (c:=[.bool b,.slice a l c,.bool d,.slice e f g]) rfl ⟨_,_,_,_,_,_,_,_,rfl,i6,j6⟩ .nil) ⟨rfl,rfl⟩ (yy p6 R2) (Nat.le_refl _) (by show qs.length+1<_;omega) zo ?_;intro v7 h7 g7 T7 X7 K7 F7;obtain ⟨a7,rfl⟩:=g7.shape (L:=qs.length+1) (by rw [List.length_append];rfl);have ht7:Tp h7 T:=(ht3.ext x6 (show T.m≤n3 by omega)).ext X7 (show T.m≤n by omega);have hx7:∀c,c<3*n→c≠T.bt→h7 c=h c:=fun c hc hb=>(X7 c zo).trans ((x6 c zo).trans ((hx3 c zo hb).trans (hx2 c hc hb)));clear x6 X7 T7 K7;refine zG ?_;exact sK (qs.length+1,qs++[q],.slice a7 (qs.length+1) (qs.length+1)) ⟨⟨z9 hw3 hw2,zo,ht7,hx7⟩,by show qs.length+1≤N;omega,by rw [List.length_append];rfl,fun q' hq'=>by
   rcases List.mem_append.1 hq' with hq'|hq'
   ·exact hq2 q' hq'
   ·rw [List.mem_singleton.1 hq'];exact hq,g7⟩
 have hjl:qs.length=N:=zo;refine zG ?_;subst hjl;refine retH [.slice av qs.length qs.length] ⟨rfl,(zi rfl),rfl⟩ ⟨⟨hw2,y2,ht2,hx2⟩,av,qs,rfl,rfl,hq2,?_⟩;obtain ⟨C,g1,g2',_⟩:=g2;exact ⟨C,g1.sl,g2'⟩
theorem zdt (k:Nat){h:HF}{n:Nat}{a:Option Addr}{L cap:Nat}{qs:List Rat}(iq:NS h n (.slice a L cap) qs)(hL:L≤1000){m:Nat}(hz:∀q∈qs,Sz m q)(hm:m≤32):
  CX (cal (k+6)) 11 [.slice a L cap] h n fun v h' n'=>∃b,v=.slice (some ⟨b,0,none⟩) L L∧3*n≤b∧OT h' n' b (qs.map ratT):=by
 refine zk (fn:=Tryz.f11) R4 ?_;refine zG ?_;refine sC (bK k iq hL hz hm) ?_;rintro _ h1 n1 ⟨b,rfl,f1,o1⟩ y1 x1;refine zG ?_;refine zq ?_;exact ⟨b,rfl,f1,o1⟩
end
end
section
variable {q:Rat}{S:List (List UInt8)}{h':HF}{N j k n':Nat}
theorem bA (k:Nat){h:HF}(hG:GK.G h){n:Nat}(hn:20≤n)(hq:Sz 29 q):VF (cal (k+6)) 82 [.string ⟨⟨ratT q⟩⟩] h n fun v=>v=.bool true:=by
 cases hsm:GK.isSmall (ratT q) with
 |true=>exact ⟨_,_,_,_,jF (k+5) hG n hsm,rfl,rfl,rfl,rfl⟩
 |false=>
 cases hbd:GK.isBad (ratT q) with
 |true=>exact absurd ⟨q,rfl⟩ (za2 hbd).1
 |false=>
 refine zw (fn:=Tryz.f82) ⟨(by show (match GK.isSmall (ratT q) with|true=>some (Value.bool true)|false=>(match GK.isBad (ratT q) with|true=>some (Value.bool false)|false=>none))=none;rw [hsm,hbd]),rfl,rfl,rfl⟩ ?_;refine zG ?_;refine sC (rW _ _ _ hq) ?_;rintro _ h1 n1 ⟨a,b,rfl,_⟩ y1 x1;refine zG ?_;refine sA ?_;intro h2 p2 x2;refine sS [.int .i64 a,.int .i64 b] ?_;intro h3 p3 o3;refine zG ?_;refine zf ?_;rfl
theorem sRT (k:Nat):RV (k+6) fun s=>∃q,Sz 29 q∧s=ratT q:=fun j h hG n hn s ⟨q,hq,hs⟩=>by
 subst hs;rw [show k+6+j=k+j+6 by omega];refine yh (bA (k+j) hG hn hq) ?_;rintro _ h' n' w ⟨h1,h2,h3,rfl⟩;exact ⟨h1,h2,h3,true,rfl,fun _=>⟨q,rfl⟩,fun _=>rfl⟩
section
variable {h:HF}{n:Nat}
theorem dotX (k:Nat)(g:GG h n){aS aU:Option Addr}{lS cS lU cU:Nat}{us:List Rat}(hS:Sl h n 1 (.slice aS lS cS) (strs S))(hU:Sl h n 1 (.slice aU lU cU) (strs (us.map ratT)))(hl:us.length=S.length)(hS2:∀s∈S,xU 2 s)(hu:∀u∈us,Sz 25 u)(hz:∀j,j≤S.length→Sz 29 (dt S us j))(hb:S.length<1000):
  VF (cal (k+8)) 79 [.slice aS lS cS,.slice aU lU cU] h n fun v=>v=.string ⟨⟨ratT (dt S us S.length)⟩⟩:=by
 have l1:=vi hS;have l2:=vi hU;rw [List.length_map] at l2;subst l1;refine zw (fn:=Tryz.f79) R4 ?_;refine zG ?_;rw [show ([48]:List UInt8)=ratT (dt S us 0) from rfl];refine sF (α:=Nat) (fun z=>[(1,.slice aU lU cU),(5,.string ⟨⟨ratT (dt S us z)⟩⟩),(8,.slice aS S.length cS),(9,.int .i64 (S.length:Int)),(10,.int .i64 (z:Int))])
  (fun z h' n' w'=>w'=[]∧n≤n'∧Ex0 n h h'∧z≤S.length) (fun z=>S.length-z) 0 ⟨rfl,Nat.le_refl _,⟨Ext.refl _ _⟩,Nat.zero_le _⟩ ?_
 rintro j t h1 n1 _ ⟨rfl,y1,E1,hj⟩;have y1:n≤n1:=y1;have hj:j≤S.length:=hj;refine zG ?_;by_cases qj:(j:Int)<(S.length:Int)
 ·obtain ⟨s,hs⟩:∃s,S[j]?=some s:=⟨_,List.getElem?_eq_getElem zo⟩;obtain ⟨x,hxa,hxb,rfl⟩:=hS2 s (List.mem_of_getElem? hs);obtain ⟨u,hu0⟩:∃u,us[j]?=some u:=⟨_,List.getElem?_eq_getElem zo⟩;have hstep:=zi5 hs hu0;have hut:(us.map ratT)[j]?=some (ratT u):=by rw [List.getElem?_map,hu0];rfl
  refine zG ?_;obtain ⟨b3,o3,e3,m3,r3,t3⟩:=xp (hS.ext E1.e y1) hs;refine sI e3 r3 ?_;refine sL t3 m3 0 ?_;refine zG ?_;refine sQn (decide ((x:Rat)=0)) (fi _) ?_;by_cases hx0:(x:Rat)=0
  ·rw [decide_eq_true hx0];refine zG ?_;have e:dt S us (j+1)=dt S us j:=by rw [hstep,hx0,Rat.zero_mul,Rat.add_zero]
   rw [←e];exact sK (j+1) ⟨rfl,y1,E1,by show j+1≤S.length;omega⟩
  rw [decide_eq_false hx0];refine zG ?_;obtain ⟨b4,o4,e4,m4,r4,t4⟩:=xp (hU.ext E1.e y1) hut;refine sI e4 r4 ?_;refine sL t4 m4 0 ?_;refine sQn (decide (u=0)) (fi _) ?_;by_cases hu1:u=0
  ·rw [decide_eq_true hu1];refine zG ?_;have e:dt S us (j+1)=dt S us j:=by rw [hstep,hu1,Rat.mul_zero,Rat.add_zero]
   rw [←e];exact sK (j+1) ⟨rfl,y1,E1,by show j+1≤S.length;omega⟩
  rw [decide_eq_false hu1];refine zG ?_;refine sI e4 r4 ?_;refine sL t4 m4 0 ?_;have g1:GG h1 n1:=g.ext E1.e y1;have sx:Sz 2 (x:Rat):=jW ⟨hxa,hxb⟩;have su:=hu u (List.mem_of_getElem? hu0);refine sC (mulT _ (g1.x zx) (sx.mono zd) (su.mono zd)).cx ?_;rintro _ h5 n5 rfl y5 x5;refine sC (addT _ (g1.x zx) (hz j hj) ((sx.mul su).mono zd)).cx ?_;rintro _ h6 n6 rfl y6 x6;rw [←hstep];have E6:Ex0 n h h6:=⟨fun c hc=>(x6 c zo).trans ((x5 c zo).trans (E1.e c hc))⟩;clear x5 x6;refine zG ?_;exact sK (j+1) ⟨rfl,zo,E6,by show j+1≤S.length;omega⟩
 have hjl:j=S.length:=zo;subst hjl;refine zG ?_;refine zf ?_;rfl
structure PtR (h:HF)(n:Nat)(vX vU:Value)(p:Sdp)(ds:List MD)(M:Nat→Nat→Nat→Rat)(us:List Rat):Prop where
 m:MS h n vX ds M
 u:Sl h n 1 vU (strs (us.map ratT))
structure PtB (p:Sdp)(ds:List MD)(M:Nat→Nat→Nat→Rat)(us:List Rat):Prop where
 d:ds.map (·.n)=dimN p
 l:us.length=p.free
 s:∀k i j,M k i j=M k j i
 b:∀k i j,FN 1 8 (M k i j)
 r:∀u∈us,NumR u
theorem PtR.ext {h:HF}{n:Nat}{vX vU:Value}{p:Sdp}{ds:List MD}{M:Nat→Nat→Nat→Rat}{us:List Rat}(r:PtR h n vX vU p ds M us)(x:Ext n h h')(hn:n≤n'):PtR h' n' vX vU p ds M us:=⟨r.m.ext x hn,r.u.ext x hn⟩
section
variable {p:Sdp}{ds:List MD}{M:Nat→Nat→Nat→Rat}{us:List Rat}(B:PtB p ds M us)
include B
theorem PtB.mz (k i j:Nat):Sz 4 (M k i j):=FN.sz (B.b k i j) zd zd zd
theorem PtB.get (hk:(dimN p)[k]?=some N):∃d,ds[k]?=some d∧d.n=N:=by
 rw [←B.d,List.getElem?_map] at hk;cases h:ds[k]? with
 |none=>rw [h] at hk;cases hk
 |some d=>rw [h] at hk;exact ⟨d,rfl,Option.some.inj hk⟩
theorem PtB.dn {d:MD}(hk:ds[k]?=some d):(dimN p)[k]?=some d.n:=by rw [←B.d,List.getElem?_map,hk];rfl
theorem PtB.fz {E:List Ent}(hE:∀e∈E,EntD (dimN p) e)(hl:E.length≤256):Sz 27 (fm M E):=FN.sz (P:=27) (zbj B.b hE) zd zd zo
theorem PtB.uf {u:Rat}(hu:u∈us):FN 12 108 u:=by
 obtain ⟨x,y,h1,h2,h3,h4,rfl⟩:=B.r u hu;rcases (show y=1∨y=2∨y=3∨y=4 by omega) with rfl|rfl|rfl|rfl
 ·exact ⟨12*x,by rw [Rat.divInt_eq_div,Rat.div_def,Rat.mul_assoc,Rat.mul_comm,Rat.intCast_mul,show ((1:Int):Rat)⁻¹ *((12:Nat):Rat)=((12:Int):Rat) by decide+kernel],zo⟩
 ·exact ⟨6*x,by rw [Rat.divInt_eq_div,Rat.div_def,Rat.mul_assoc,Rat.mul_comm,Rat.intCast_mul,show ((2:Int):Rat)⁻¹ *((12:Nat):Rat)=((6:Int):Rat) by decide+kernel],zo⟩
 ·exact ⟨4*x,by rw [Rat.divInt_eq_div,Rat.div_def,Rat.mul_assoc,Rat.mul_comm,Rat.intCast_mul,show ((3:Int):Rat)⁻¹ *((12:Nat):Rat)=((4:Int):Rat) by decide+kernel],zo⟩
 exact ⟨3*x,by rw [Rat.divInt_eq_div,Rat.div_def,Rat.mul_assoc,Rat.mul_comm,Rat.intCast_mul,show ((4:Int):Rat)⁻¹ *((12:Nat):Rat)=((3:Int):Rat) by decide+kernel],zo⟩
theorem PtB.tz (hS:∀s∈S,xU 2 s)(hj:j≤100):Sz 27 (dt S us j):=FN.sz (P:=27) (zbv hS (fun u hu=>B.uf hu) j) zd zd zo
theorem PtB.uz {u:Rat}(hu:u∈us):Sz 25 u:=(B.r u hu).ok.1.mono zd
end
end
end
section
def eqFs (p:Sdp)(m:Nat):List (List UInt8):=((p.eqs[m]?).map (·.fr)).getD []
noncomputable def vaQ (p:Sdp)(M:Nat→Nat→Nat→Rat)(us:List Rat):Rat:=fm M p.obj+dt p.objFree us p.free
noncomputable def rsQ (p:Sdp)(M:Nat→Nat→Nat→Rat)(us:List Rat)(m:Nat):Rat:=fm M (eqEs p m)+dt (eqFs p m) us p.free-z0 (eqRh p m)
def zfv (p:Sdp)(M:Nat→Nat→Nat→Rat)(us:List Rat):Prop:=(∀m,m<p.eqs.length→rsQ p M us m=0)∧∀k N,(dimN p)[k]?=some N→psdA N N 0 (M k)
section
variable {h:HF}{n:Nat}{p:Sdp}{F least:Nat}{aB aO aF aE:Option Addr}{lB cB lO cO lF cF lE cE:Nat}{aX aU:Option Addr}{lX cX lU cU:Nat}{ds:List MD}{M:Nat→Nat→Nat→Rat}{us:List Rat}
theorem symX (k:Nat)(g:GG h n){N:Nat}{a:Option Addr}{c:Nat}{A:Nat→Nat→Rat}(hN:1≤N∧N≤3)(s:Sl h n 1 (.slice a (N*N) c) (strs ((tabL N A).map ratT)))(hP:∀i j,Sz 4 (A i j))(hs:∀i j,A i j=A j i):
  VF (cal (k+13)) 103 [.agg #[.int .i64 (N:Int),.int .i64 (N:Int),.slice a (N*N) c]] h n fun v=>v=.bool true:=by
 refine zw (fn:=Tryz.f103) R4 ?_;refine zG ?_;refine sB [.int .i64 (N:Int),.int .i64 (N:Int),.slice a (N*N) c] ?_;intro h1 p1 x1;refine zG ?_;refine sC (fH k (g.x (zx:Tx n h (n+1) h1)) hN (s.ext x1 zs) (fun i j _ _=>hP i j) zd (fun i j _ _=>hs i j)) ?_;rintro _ h2 n2 ⟨a2,l2,c2,rfl,_⟩ y2 x2;refine zG ?_;refine zf ?_;rfl
theorem mE (k:Nat)(g:GG h n)(hF:F≤100)(hp:SdpR h n (.slice aB lB cB) (.slice aO lO cO) (.slice aF lF cF) (.slice aE lE cE) p)(hok:SdpOk F least p)(hx:PtR h n (.slice aX lX cX) (.slice aU lU cU) p ds M us)(B:PtB p ds M us):
  VF (cal (k+14)) 60 [.agg #[.slice aB lB cB,.int .i64 (p.free:Int),.slice aO lO cO,.slice aF lF cF,.slice aE lE cE],.agg #[.slice aX lX cX,.slice aU lU cU]] h n fun v=>v=.bool true:=by
 have hbl:=hok.bl;have hfr:=hok.free;have hdl:(dimN p).length=p.blocks.length:=by unfold dimN;rw [List.length_map]
 have hds:ds.length=p.blocks.length:=by rw [←hdl,←B.d,List.length_map]
 have lX1:lX=ds.length:=hx.m.r.len' zd;have lU1:=vi hx.u;rw [List.length_map,B.l] at lU1;have lB1:lB=p.blocks.length:=hp.blocks.lenEq zo (by unfold i64s;rw [List.length_map,Nat.mul_one]);subst lX1 lU1 lB1;have hBg:∀{j N:Nat},(dimN p)[j]?=some N→p.blocks[j]?=some (N:Int)∧1≤N∧N≤3:=fun {j N} hj=>by
  unfold dimN at hj;rw [List.getElem?_map] at hj;cases hb:p.blocks[j]? with
  |none=>rw [hb] at hj;cases hj
  |some d=>
   rw [hb] at hj;have:=hok.b3 d (List.mem_of_getElem? hb);have hj:d.toNat=N:=Option.some.inj hj;rw [show (N:Int)=d by omega];exact ⟨rfl,zo,zo⟩
 refine zw (fn:=Tryz.f60) R4 ?_;refine zG ?_;refine sB [.slice aB p.blocks.length cB,.int .i64 (p.free:Int),.slice aO lO cO,.slice aF lF cF,.slice aE lE cE] ?_;intro h1 p1 x1;refine sB [.slice aX ds.length cX,.slice aU p.free cU] ?_;intro h2 p2 x2;refine zG ?_;have X2:Ex0 n h h2:=⟨(zx:Tx n h (n+1+1) h2).2⟩;have g2:GG h2 (n+1+1):=g.ext X2.e zo;have hp2:=hp.ext0 X2.e (show n≤n+1+1 by omega);have hx2:=hx.ext X2.e (show n≤n+1+1 by omega);have hv:=zc7 (k+10) g2.1 (hF:=hF) g2.2 hp2 hok;refine sC hv.cx ?_;rintro _ h3 n3 rfl y3 x3;refine zG ?_;refine sC (iK (k+11) (sRT (k+6)) (g2.x ⟨y3,x3⟩).1 (g2.x ⟨y3,x3⟩).2 (hx2.u.ext x3 y3) (fun s hs=>by
  obtain ⟨u,hu,rfl⟩:=List.mem_map.1 hs;exact ⟨u,(B.uz hu).mono zd,rfl⟩) (by rw [List.length_map,B.l];omega)).cx ?_
 rintro _ h4 n4 ⟨b4,rfl,hb4⟩ y4 x4;have hb:b4=true:=hb4.2 (fun s hs=>by
  obtain ⟨u,hu,rfl⟩:=List.mem_map.1 hs;exact ⟨u,rfl⟩)
 subst hb;have X4:Ex0 n h h4:=⟨fun c hc=>(x4 c zo).trans ((x3 c zo).trans (X2.e c hc))⟩;obtain ⟨e1,q1⟩:∃e,h4 (3*n+2)=some (.row [.slice aB p.blocks.length cB,.int .i64 (p.free:Int),.slice aO lO cO,.slice aF lF cF,.slice aE lE cE] e):=⟨_,zp⟩;obtain ⟨e2,q2⟩:∃e,h4 (3*(n+1)+2)=some (.row [.slice aX ds.length cX,.slice aU p.free cU] e):=⟨_,zp⟩;have y44:n+1+1≤n4:=zo;clear x1 x2 x3 x4 p1 p2 X2 hp2 hx2 g2;refine zG ?_;refine sF (α:=Nat) (fun z=>[(2,.pointer (some ⟨3*n+2,0,none⟩)),(34,.slice aX ds.length cX),(35,.int .i64 (ds.length:Int)),(36,.int .i64 (z:Int))])
  (fun z h' n' w'=>w'=[]∧n4≤n'∧Ex0 n h h'∧h' (3*n+2)=some (.row [.slice aB p.blocks.length cB,.int .i64 (p.free:Int),.slice aO lO cO,.slice aF lF cF,.slice aE lE cE] e1)∧z≤ds.length) (fun z=>ds.length-z) 0 ⟨rfl,Nat.le_refl _,X4,q1,Nat.zero_le _⟩ ?_
 rintro j t h5 n5 _ ⟨rfl,y5,X5,q5,hj⟩;have y5:n4≤n5:=y5;have hj:j≤ds.length:=hj;clear q1 X4;refine zG ?_;by_cases qj:(j:Int)<(ds.length:Int)
 ·obtain ⟨d,hd⟩:∃d,ds[j]?=some d:=⟨_,List.getElem?_eq_getElem zo⟩;obtain ⟨hdB,hd3⟩:=hBg (B.dn hd);have hx5:=hx.ext X5.e (show n≤n5 by omega);refine zG ?_;obtain ⟨b6,o6,c6,e6,m6,r6,t6,_,f6⟩:=RS.at' zd hx5.m.r hd;have f6:c6=[.int .i64 (d.n:Int),.int .i64 (d.n:Int),.slice d.a (d.n*d.n) d.c]:=f6;subst f6;refine sI e6 r6 ?_;refine sL t6 m6 0 ?_;refine sA ?_;intro h7 p7 x7;refine zG ?_;refine sS [.int .i64 (d.n:Int),.int .i64 (d.n:Int),.slice d.a (d.n*d.n) d.c] ?_;intro h8 p8 o8;have X8:Ext n5 h5 h8:=(zx:Tx n5 h5 (n5+1) h8).2;have q8:=(X8 (3*n+2) zo).trans q5;have X08:Ext n h h8:=fun c hc=>(X8 c zo).trans (X5.e c hc);have hx8:=hx5.ext X8 zs;clear x7 p7 o8;obtain ⟨b9,o9,e9,m9,r9,t9⟩:=qh (hp.blocks.ext X08 (show n≤n5+1 by omega)) hdB;refine zG ?_;refine zl [0,1,0,4,0,28,60,127,255,511,1023,2047,4095] rfl ?_;refine zH ?_;refine dI (j:=j) e9 r9 ?_;refine dL t9 m9 0 ?_;refine zH ?_;refine dC (symX k (g.ext X08 (show n≤n5+1 by omega)) hd3 (hx8.m.t _ _ hd) (B.mz j) (B.s j)).cx ?_;rintro _ h10 n10 rfl y10 x10;refine zH ?_;refine zG ?_;exact sK (j+1) ⟨rfl,zo,⟨fun c hc=>(x10 c zo).trans (X08 c hc)⟩,(x10 _ zo).trans q8,by show j+1≤ds.length;omega⟩
 refine zG ?_;refine zf ?_;rfl
theorem zj4 (k:Nat)(g:GG h n)(hF:F≤100)(hp:SdpR h n (.slice aB lB cB) (.slice aO lO cO) (.slice aF lF cF) (.slice aE lE cE) p)(hok:SdpOk F least p)(hx:PtR h n (.slice aX lX cX) (.slice aU lU cU) p ds M us)(B:PtB p ds M us):
  VF (cal (k+15)) 37 [.agg #[.slice aB lB cB,.int .i64 (p.free:Int),.slice aO lO cO,.slice aF lF cF,.slice aE lE cE],.agg #[.slice aX lX cX,.slice aU lU cU]] h n fun v=>v=.tuple #[.string ⟨⟨ratT (vaQ p M us)⟩⟩,.int .i64 0]:=by
 have hfr:=hok.free;have lO1:lO=p.obj.length:=hp.obj.lenEq (by have:=hok.objl;omega) (yQ _);have hN3:∀N∈dimN p,N≤8:=fun N hN=>by
  obtain ⟨d,hd,rfl⟩:=List.mem_map.1 hN;have:=hok.b3 d hd;omega
 have hE:∀e∈p.obj,EntD (dimN p) e:=fun e he=>(hok.obj.ok e he).f.d;have hol:=hok.objl;subst lO1;refine zw (fn:=Tryz.f37) R4 ?_;refine zG ?_;refine sB [.slice aB lB cB,.int .i64 (p.free:Int),.slice aO p.obj.length cO,.slice aF lF cF,.slice aE lE cE] ?_;intro h1 p1 x1;refine sB [.slice aX lX cX,.slice aU lU cU] ?_;intro h2 p2 x2;refine zG ?_;have X2:Ex0 n h h2:=⟨(zx:Tx n h (n+1+1) h2).2⟩;have hv:=mE k (g.ext X2.e (show n≤n+1+1 by omega)) hF (hp.ext0 X2.e zo) hok (hx.ext X2.e zo) B;refine sC hv.cx ?_;rintro _ h3 n3 rfl y3 x3;refine zG ?_;have X3:Ex0 n h h3:=⟨fun c hc=>(x3 c zo).trans (X2.e c hc)⟩;have y33:n≤n3:=zo;have g3:=g.ext X3.e y33;have hp3:=hp.ext0 X3.e y33;have hx3:=hx.ext X3.e y33;have hof:p.objFree.length=p.free:=hok.ofl;refine zl [0,1,0,4,15,0,32,0,128,511,1023,2047,4095] rfl ?_;refine zH ?_;have hform:=zlg k g3 hx3.m B.d hN3 hp3.obj hE zo (fun k i j=>(B.mz k i j).mono zd) (fun P Q e=>(B.fz (fun x hx=>hE x (by rw [e];exact List.mem_append_left _ hx)) (by rw [e,List.length_append] at hol;omega)).mono zd);refine dC hform.cx ?_;rintro _ h4 n4 rfl y4 x4;refine zH ?_;have hdot:=dotX (k+6) (g3.x ⟨y4,x4⟩) (hp3.objFree.ext x4 y4) (hx3.u.ext x4 y4) (by rw [B.l,hof]) hok.ofs (fun u hu=>B.uz hu) (fun j hj=>(B.tz hok.ofs zo).mono zd) zo;refine dC hdot.cx ?_;rintro _ h5 n5 rfl y5 x5;rw [hof];refine dC (addT (k+7) ((g3.x ⟨y4,x4⟩).x ⟨y5,x5⟩) ((B.fz hE zo).mono zd) ((B.tz hok.ofs (j:=p.free) zo).mono zd)).cx ?_;rintro _ h6 n6 rfl y6 x6;refine zH ?_;refine zG ?_;refine zf ?_;rfl
end
end
section
variable {i:Nat}
section
variable {h:HF}{n:Nat}{p:Sdp}{F least:Nat}{aB aO aF aE:Option Addr}{lB cB lO cO lF cF lE cE:Nat}{aX aU:Option Addr}{lX cX lU cU:Nat}{ds:List MD}{M:Nat→Nat→Nat→Rat}{us:List Rat}
structure EqD (p:Sdp)(i:Nat)(q:Eqn)(x:Int):Prop where
 es:eqEs p i=q.es
 fs:eqFs p i=q.fr
 rh:z0 (eqRh p i)=(x:Rat)
 ee:∀e∈q.es,EntD (dimN p) e
 el:q.es.length≤256
 fl:q.fr.length=p.free
 f2:∀s∈q.fr,xU 2 s
 r:q.rhs=ratT (x:Rat)
 sx:Sz 3 (x:Rat)
theorem SdpOk.eqd (hok:SdpOk F least p){q:Eqn}(hq:p.eqs[i]?=some q):∃x,EqD p i q x:=by
 have hqm:=List.mem_of_getElem? hq;obtain ⟨h1,h2,h3,h4,x,hxa,hxb,hxr⟩:=hok.eqo q hqm;refine ⟨x,?_,?_,?_,fun e he=>(h1.ok e he).f.d,h2,h3,h4,hxr,?_⟩
 ·unfold eqEs;rw [hq];rfl
 ·unfold eqFs;rw [hq];rfl
 ·unfold eqRh;rw [hq];show z0 q.rhs=_;rw [hxr];exact zX _
 refine ⟨?_,?_⟩
 ·rw [Rat.num_intCast];show x.natAbs<8;omega
 rw [Rat.den_intCast];decide
theorem PtB.lz (B:PtB p ds M us){q:Eqn}{x:Int}(hq:EqD p i q x)(hfr:p.free≤100):Sz 28 (fm M q.es+dt q.fr us p.free):=by
 have h1:=(zbj B.b hq.ee).up 12;have h2:=zbv hq.f2 (fun u hu=>B.uf hu) p.free;refine FN.sz (D:=12) (h1.add h2) zd zd ?_;have:=hq.el;omega
theorem zf6 (k:Nat)(g:GG h n)(hF:F≤100)(hp:SdpR h n (.slice aB lB cB) (.slice aO lO cO) (.slice aF lF cF) (.slice aE lE cE) p)(hok:SdpOk F least p)(hx:PtR h n (.slice aX lX cX) (.slice aU lU cU) p ds M us)(B:PtB p ds M us):
  CX (cal (k+15)) 59 [.agg #[.slice aB lB cB,.int .i64 (p.free:Int),.slice aO lO cO,.slice aF lF cF,.slice aE lE cE],.agg #[.slice aX lX cX,.slice aU lU cU]] h n fun v h' n'=>∃b,v=.tuple #[.slice (some ⟨b,0,none⟩) p.eqs.length p.eqs.length,.int .i64 0]∧OT h' n' b ((List.range p.eqs.length).map fun i=>ratT (rsQ p M us i)):=by
 have hfr:=hok.free;have heq:=hok.eql;have hN3:∀N∈dimN p,N≤8:=fun N hN=>by
  obtain ⟨d,hd,rfl⟩:=List.mem_map.1 hN;have:=hok.b3 d hd;omega
 have lE1:lE=p.eqs.length:=by
  obtain ⟨ce,hE,hEq⟩:=hp.eqs;exact hE.lenEq zo hEq.len
 subst lE1;refine zk (fn:=Tryz.f59) R4 ?_;refine zG ?_;refine sB [.slice aB lB cB,.int .i64 (p.free:Int),.slice aO lO cO,.slice aF lF cF,.slice aE p.eqs.length cE] ?_;intro h1 p1 x1;refine sB [.slice aX lX cX,.slice aU lU cU] ?_;intro h2 p2 x2;refine zG ?_;have X2:Ex0 n h h2:=⟨(zx:Tx n h (n+1+1) h2).2⟩;have hv:=mE k (g.ext X2.e (show n≤n+1+1 by omega)) hF (hp.ext0 X2.e zo) hok (hx.ext X2.e zo) B;refine sC hv.cx ?_;rintro _ h3 n3 rfl y3 x3;refine zG ?_;refine sMk (L:=p.eqs.length) [.string ⟨⟨[]⟩⟩] ?_ zo;intro h4 p4 x4;have o4:OT h4 (n3+1) (3*n3+2) (List.replicate p.eqs.length []):=OR.fill zo p4 strP.kp rfl;obtain ⟨e2,q2⟩:∃e,h4 (3*(n+1)+2)=some (.row [.slice aX lX cX,.slice aU lU cU] e):=⟨_,zp⟩;have X4:Ex0 n h h4:=⟨fun c hc=>(x4 c zo).trans ((x3 c zo).trans (X2.e c hc))⟩;refine zG ?_;obtain ⟨bR,hbR⟩:∃b,b=3*n3+2:=⟨_,rfl⟩;rw [←hbR] at o4 ⊢;have hbR3:3*n3≤bR∧bR<3*(n3+1):=zo;clear x1 x2 x3 x4 p1 p2 p4 X2;refine sF (α:=Nat) (fun z=>[(3,.pointer (some ⟨3*(n+1)+2,0,none⟩)),(6,.slice (some ⟨bR,0,none⟩) p.eqs.length p.eqs.length),(19,.slice aE p.eqs.length cE),(20,.int .i64 (p.eqs.length:Int)),(21,.int .i64 (z:Int))])
  (fun z h' n' w'=>w'=[]∧n3+1≤n'∧Ex0 n h h'∧h' (3*(n+1)+2)=some (.row [.slice aX lX cX,.slice aU lU cU] e2)∧OT h' n' bR (((List.range p.eqs.length).take z).map (fun i=>ratT (rsQ p M us i))++List.replicate ((List.range p.eqs.length).length-z) [])∧z≤p.eqs.length) (fun z=>p.eqs.length-z) 0 ⟨rfl,Nat.le_refl _,X4,q2,o4.as (by rw [List.take_zero,Nat.sub_zero,List.length_range];rfl),Nat.zero_le _⟩ ?_
 rintro i t h8 n8 _ ⟨rfl,y8,E8,q8,o8,hi⟩;have hi:i≤p.eqs.length:=hi;have y8:n3+1≤n8:=y8;have o8:OT h8 n8 bR (((List.range p.eqs.length).take i).map (fun i=>ratT (rsQ p M us i))++List.replicate ((List.range p.eqs.length).length-i) []):=o8;clear o4 q2 X4;refine zG ?_;by_cases qi:(i:Int)<(p.eqs.length:Int)
 ·obtain ⟨q,hq⟩:∃q,p.eqs[i]?=some q:=⟨_,List.getElem?_eq_getElem zo⟩;obtain ⟨x,hd⟩:=hok.eqd hq;have hrs:rsQ p M us i=fm M q.es+dt q.fr us p.free-(x:Rat):=by
   unfold rsQ;rw [hd.es,hd.fs,hd.rh]
  obtain ⟨ce,hE,hEq⟩:=hp.eqs;obtain ⟨ve,vf,ec,s1,s2⟩:=hEq.get hq;obtain ⟨a1,l1,c1,rfl,ll1⟩:=s1.len;obtain ⟨a2,l2,c2,rfl,ll2⟩:=s2.len;have hel:=hd.el;have ll1:l1=q.es.length:=s1.lenEq zo (yQ _);subst ll1;rw [hd.r] at ec;refine zG ?_;obtain ⟨b9,o9,e9,mm9,r9,t9⟩:=mR (hE.ext E8.e (show n≤n8 by omega)) ec rfl zd;refine sI e9 r9 ?_;refine sL t9 mm9 0 ?_;refine sA ?_;intro h10 p10 x10;refine zG ?_;refine sS [.slice a1 q.es.length c1,.slice a2 l2 c2,.string ⟨⟨ratT (x:Rat)⟩⟩] ?_;intro h11 p11 o11;have X11:Ext n8 h8 h11:=(zx:Tx n8 h8 (n8+1) h11).2;have q11:=(X11 (3*(n+1)+2) zo).trans q8;have E11:Ex0 n h h11:=⟨fun c hc=>(X11 c zo).trans (E8.e c hc)⟩;have o11':=o8.ext strP.kp X11 zs;have y11:n≤n8+1:=zo;have g11:=g.ext E11.e y11;have hx11:=hx.ext E11.e y11;clear x10 p10 o11 X11;refine zG ?_;refine zl [0,1,0,4,15,0,32,0,128,511,1023,2047] rfl ?_;refine zH ?_;have hform:=zlg k g11 hx11.m B.d hN3 (s1.ext E11.e y11) hd.ee zo (fun k i j=>(B.mz k i j).mono zd) (fun P Q e=>(B.fz (fun x hx=>hd.ee x (by rw [e];exact List.mem_append_left _ hx)) (by rw [e,List.length_append] at hel;omega)).mono zd);refine dC hform.cx ?_;rintro _ h12 n12 rfl y12 x12;refine zH ?_;have hdot:=dotX (k+6) (g11.x ⟨y12,x12⟩) ((s2.ext E11.e y11).ext x12 y12) (hx11.u.ext x12 y12) (by rw [B.l,hd.fl]) hd.f2 (fun u hu=>B.uz hu) (fun j hj=>(B.tz hd.f2 (by have:=hd.fl;omega)).mono zd) (by have:=hd.fl;omega);refine dC hdot.cx ?_;rintro _ h13 n13 rfl y13 x13;rw [hd.fl];refine dC (addT (k+7) ((g11.x ⟨y12,x12⟩).x ⟨y13,x13⟩) ((B.fz hd.ee hel).mono zd) ((B.tz hd.f2 (j:=p.free) zo).mono zd)).cx ?_;rintro _ h14 n14 rfl y14 x14;have g14:=((g11.x ⟨y12,x12⟩).x ⟨y13,x13⟩).x ⟨y14,x14⟩;refine zH ?_;refine zG ?_;refine sC (subT (k+7) g14 ((B.lz hd zo).mono zd) (hd.sx.mono zd)).cx ?_;rintro _ h15 n15 rfl y15 x15;rw [←hrs];have X15:Ext (n8+1) h11 h15:=fun c hc=>(x15 c zo).trans ((x14 c zo).trans ((x13 c zo).trans (x12 c hc)));have o15:=o11'.ext (n':=n15) strP.kp X15 zo;refine sI (j:=i) (len:=p.eqs.length) rfl zo ?_;refine sZn (n0:=n) (j:=i) (q:=ratT (rsQ p M us i)) [.string ⟨⟨ratT (rsQ p M us i)⟩⟩] o15 strP.kp (by rw [List.length_append,List.length_map,List.length_take,List.length_replicate,List.length_range];omega) (show (0:Nat)+i*1=i*1 by omega) rfl zo ?_;intro h16 o16 s16;have q16:=(s16.1 (3*(n+1)+2) zo).trans ((X15 _ zo).trans q11);have E16:Ex0 n h h16:=⟨fun c hc=>(s16.1 c zo).trans ((X15 c zo).trans (E11.e c hc))⟩;clear x12 x13 x14 x15 X15;refine zG ?_;exact sK (i+1) ⟨rfl,zo,E16,q16,o16.as (lT (List.range p.eqs.length) (fun i=>ratT (rsQ p M us i)) [] (List.getElem?_range zo)),by show i+1≤p.eqs.length;omega⟩
 have hie:i=p.eqs.length:=zo;subst hie;have X8:Ext n h h8:=E8.e;have y88:n≤n8:=zo;refine zG ?_;refine zq ?_;exact ⟨bR,rfl,o8.as (by rw [List.take_of_length_le (by rw [List.length_range];exact Nat.le_refl _),List.length_range,Nat.sub_self];exact List.append_nil _)⟩
theorem PtB.mok (B:PtB p ds M us)(hok:SdpOk F least p):MOk 4 1 8 ds M where
 hn:=fun k d hd=>by
  have h1:=B.dn hd;obtain ⟨x,hx,hn⟩:=List.mem_map.1 (List.mem_of_getElem? h1);have:=hok.b3 x hx;omega
 hs:=fun k d _ i j _ _=>B.s k i j
 P1:=by decide
 P2:=by decide
 D0:=by decide
 D2:=by decide
 hB:=fun k d _ i j _ _=>B.b k i j
 B1:=by decide
 B2:=by decide
theorem zmp (k:Nat)(g:GG h n)(hF:F≤100)(hp:SdpR h n (.slice aB lB cB) (.slice aO lO cO) (.slice aF lF cF) (.slice aE lE cE) p)(hok:SdpOk F least p)(hx:PtR h n (.slice aX lX cX) (.slice aU lU cU) p ds M us)(B:PtB p ds M us):
  VF (cal (k+18)) 36 [.agg #[.slice aB lB cB,.int .i64 (p.free:Int),.slice aO lO cO,.slice aF lF cF,.slice aE lE cE],.agg #[.slice aX lX cX,.slice aU lU cU]] h n fun v=>∃ok,v=.tuple #[.bool ok,.int .i64 0]∧(ok=true↔zfv p M us):=by
 have heq:=hok.eql;have hbl:=hok.bl;have hds:ds.length=p.blocks.length:=by
  have:=congrArg List.length B.d;unfold dimN at this;rwa [List.length_map,List.length_map] at this
 refine zw (fn:=Tryz.f36) R4 ?_;refine zG ?_;refine sB [.slice aB lB cB,.int .i64 (p.free:Int),.slice aO lO cO,.slice aF lF cF,.slice aE lE cE] ?_;intro h1 p1 x1;refine sB [.slice aX lX cX,.slice aU lU cU] ?_;intro h2 p2 x2;refine zG ?_;have X2:Ex0 n h h2:=⟨(zx:Tx n h (n+1+1) h2).2⟩;have hx2:=hx.ext X2.e (show n≤n+1+1 by omega);have g2:=g.ext X2.e (show n≤n+1+1 by omega);have hr:=zf6 (k+2) g2 hF (hp.ext0 X2.e zo) hok hx2 B;refine sC hr ?_;rintro _ h3 n3 ⟨bR,rfl,o3⟩ y3 x3;have hal:(∀s∈(List.range p.eqs.length).map fun i=>ratT (rsQ p M us i),s=[48])↔∀i,i<p.eqs.length→rsQ p M us i=0:=by
  constructor
  ·intro h i hi;have:=h _ (List.mem_map.2 ⟨i,List.mem_range.2 hi,rfl⟩);exact rk (this.trans rY.symm)
  intro h s hs;obtain ⟨i,hi,rfl⟩:=List.mem_map.1 hs;rw [h i (List.mem_range.1 hi)];exact rY
 refine zG ?_;refine sC (zfj (k+13) (OT.sl o3 (len:=p.eqs.length) (cap:=p.eqs.length) (by rw [List.length_map,List.length_range]) (Nat.le_refl _)) (by rw [List.length_map,List.length_range];omega)).cx ?_;rintro _ h4 n4 ⟨b4,rfl,hb4⟩ y4 x4;rcases bvs hb4 with ⟨rfl,q4⟩|⟨rfl,q4⟩
 ·refine zG ?_;refine zf ?_;exact ⟨false,rfl,fun h=>(by cases h),fun h=>absurd (hal.2 h.1) q4⟩
 refine zG ?_;have hx4:=hx2.ext (fun c hc=>(x4 c zo).trans (x3 c hc)) (show n+1+1≤n4 by omega);have hs:=zmc k ((g2.x ⟨y3,x3⟩).x ⟨y4,x4⟩) hx4.m (B.mok hok) zo;refine sC hs.cx ?_;rintro _ h5 n5 ⟨ok,rfl,hk⟩ y5 x5;refine zG ?_;refine zf ?_;refine ⟨ok,rfl,hk.trans ⟨fun h=>⟨hal.1 q4,fun k' N hN=>?_⟩,fun h k' d hd=>?_⟩⟩
 ·obtain ⟨d,hd,rfl⟩:=B.get hN;exact h k' d hd
 exact h.2 k' d.n (B.dn hd)
end
end
section
theorem kt {α β γ:Type}(f:α→β→γ):∀{l:List α} {m:List β} {x:α} {y:β},l[m.length]?=some x→List.zipWith f (l.take (m.length+1)) (m++[y])=List.zipWith f (l.take m.length) m++[f x y]:=by
 intro l m x y hx;rw [xf hx,List.zipWith_append (by rw [List.length_take];have:=(List.getElem?_eq_some_iff.1 hx).1;omega)];rfl
end
section
section
variable {h:HF}{n:Nat}
def Box4 (h:HF)(n b:Nat)(q:Rat):Prop:=b<3*n∧∃s a l c s2 a2 l2 c2 e,h b=some (.row [.bool s,.slice a l c,.bool s2,.slice a2 l2 c2] e)∧UI h n s a l c q.num∧UI h n s2 a2 l2 c2 (denZ q)
end
end
section
noncomputable def dR (qs us:List Rat):Nat→Rat
 |0=>0
 |j+1=>dR qs us j+(qs[j]?).getD 0*(us[j]?).getD 0
theorem zje {qs us:List Rat}{j:Nat}{a b:Rat}(h1:qs[j]?=some a)(h2:us[j]?=some b):dR qs us (j+1)=dR qs us j+a*b:=by
 show dR qs us j+(qs[j]?).getD 0*(us[j]?).getD 0=_;rw [h1,h2];rfl
theorem zlo (S:List (List UInt8))(us:List Rat)(j:Nat):dR (S.map z0) us j=dt S us j:=by
 induction j with
 |zero=>rfl
 |succ j ih=>
  show dR _ us j+((S.map z0)[j]?).getD 0*_=dt S us j+z0 ((S[j]?).getD [48])*_;rw [ih,List.getElem?_map];congr 2;cases S[j]? with
  |none=>show (0:Rat)=z0 [48];rw [←rY,zX]
  |some s=>rfl
section
variable {h:HF}{n:Nat}
theorem zmq (k:Nat){aA aC:Option Addr}{lA cA lC cC:Nat}{qs us:List Rat}(iq:NS h n (.slice aA lA cA) qs)(iu:NS h n (.slice aC lC cC) us)(hl:us.length=qs.length)(hq:∀q∈qs,Sz 5 q)(hu:∀u∈us,Sz 5 u)(hz:∀j,j≤qs.length→Sz 16 (dR qs us j))(hb:qs.length<1000):
  CX (cal (k+7)) 33 [.slice aA lA cA,.slice aC lC cC] h n (NQ (dR qs us qs.length)):=by
 have l1:=iq.len;have l2:=iu.len;subst l1;refine zk (fn:=Tryz.f33) R4 ?_;refine zG ?_;refine sA ?_;intro h1 p1 x1;refine zG ?_;refine sT #[.bool false,.slice none 0 0,.bool false,.slice none 0 0] ?_;refine sA ?_;intro h2 p2 x2;refine sS [.bool false,.slice none 0 0,.bool false,.slice none 0 0] ?_;intro h3 p3 o3;have X3:Ex0 n h h3:=⟨(zx:Tx n h (n+1+1) h3).2⟩;obtain ⟨e1,q1⟩:∃e,h3 (3*n+2)=some (.row [.bool false,.slice none 0 0,.bool false,.slice none 0 0] e):=⟨_,zp⟩;have b3:Box4 h3 (n+1+1) (3*(n+1)+2) (dR qs us 0):=⟨zo,_,_,_,_,_,_,_,_,_,p3,UI.zero _ _,UI.zero _ _⟩;clear p1 x1 p2 x2 p3 o3;refine zG ?_;refine sF (α:=Nat) (fun z=>[(0,.slice aA qs.length cA),(1,.slice aC lC cC),(4,.pointer (some ⟨3*n+2,0,none⟩)),(5,.pointer (some ⟨3*(n+1)+2,0,none⟩)),(6,.int .i64 (z:Int))])
  (fun z h' n' w'=>w'=[]∧n+1+1≤n'∧Ex0 n h h'∧h' (3*n+2)=some (.row [.bool false,.slice none 0 0,.bool false,.slice none 0 0] e1)∧Box4 h' n' (3*(n+1)+2) (dR qs us z)∧z≤qs.length) (fun z=>qs.length-z) 0 ⟨rfl,Nat.le_refl _,X3,q1,b3,Nat.zero_le _⟩ ?_
 rintro j t h4 n4 _ ⟨rfl,y4,E4,q4,⟨hb4,s1,a1,l1,c1,s2,a2,l2',c2,e2,p4,i4,j4⟩,hj⟩;have y4:n+1+1≤n4:=y4;have hj:j≤qs.length:=hj;clear X3 q1 b3;refine zG ?_;by_cases qj:(j:Int)<(qs.length:Int)
 ·obtain ⟨q,hq1⟩:∃q,qs[j]?=some q:=⟨_,List.getElem?_eq_getElem zo⟩;obtain ⟨u,hu1⟩:∃u,us[j]?=some u:=⟨_,List.getElem?_eq_getElem zo⟩;have sq:=hq q (List.mem_of_getElem? hq1);have su:=hu u (List.mem_of_getElem? hu1);obtain ⟨k5,u5,b5,a5,l5,c5,d5,e5,f5,w5,e5',m5,r5,t5,i5,j5⟩:=NS.at (iq.ext E4.e (show n≤n4 by omega)) hq1;obtain ⟨k6,u6,b6,a6,l6,c6,d6,e6,f6,w6,e6',m6,r6,t6,i6,j6⟩:=NS.at (iu.ext E4.e (show n≤n4 by omega)) hu1;refine zG ?_;refine zl [0,0,0,6,14,0,0,96,224,510,1023,2047] rfl ?_;refine zH ?_;refine dI (j:=j) e5' r5 ?_;refine dL t5 m5 0 ?_;refine zH ?_;refine dI (j:=j) e6' r6 ?_;refine dL t6 m6 0 ?_;refine zH ?_;refine dC (zdz k i5 j5 i6 j6 sq su zo) ?_;rintro _ h7 n7 ⟨b7,a7,l7,c7,d7,e7,f7,g7,rfl,i7,j7⟩ y7 x7;refine dC (dp k (i4.x ⟨y7,x7⟩) (j4.x ⟨y7,x7⟩) i7 j7 (hz j hj) (sq.mul su) zo) ?_;rintro _ h8 n8 ⟨b8,a8,l8,c8,d8,e8,f8,g8,rfl,i8,j8⟩ y8 x8;rw [←zje hq1 hu1] at i8 j8;have X8:Ext n4 h4 h8:=fun c hc=>(x8 c zo).trans (x7 c hc);refine dSx (n0:=n) [.bool b8,.slice a8 l8 c8,.bool d8,.slice e8 f8 g8] ((X8 _ hb4).trans p4) ?_;intro h9 p9 s9;rw [xv (show 3*n≤3*(n+1)+2 by omega)];have E9:Ex0 n h h9:=⟨fun c hc=>(s9.1 c zo).trans ((X8 c zo).trans (E4.e c hc))⟩;have q9:=(s9.1 (3*n+2) zo).trans ((X8 _ zo).trans q4);clear x7 x8 X8;refine zG ?_;exact sK (j+1) ⟨rfl,zo,E9,q9,⟨zo,_,_,_,_,_,_,_,_,_,p9,i8.t (Tr.s s9 (Tr.refl _ _)),j8.t (Tr.s s9 (Tr.refl _ _))⟩,by show j+1≤qs.length;omega⟩
 have hjl:j=qs.length:=zo;subst hjl;have X4:Ext n h h4:=E4.e;have y44:n≤n4:=zo;refine zG ?_;refine sS [.bool s1,.slice a1 l1 c1,.bool s2,.slice a2 l2' c2] ?_;intro h5 p5 s5;refine zq ?_;exact ⟨_,_,_,_,_,_,_,_,rfl,i4.t (Tr.s s5 (Tr.refl _ _)),j4.t (Tr.s s5 (Tr.refl _ _))⟩
theorem zgl (k:Nat){aS aU:Option Addr}{lS cS lU cU:Nat}{S:List (List UInt8)}{us:List Rat}(hS:Sl h n 1 (.slice aS lS cS) (strs S))(hU:Sl h n 1 (.slice aU lU cU) (strs (us.map ratT)))(hl:us.length=S.length)(hS2:∀s∈S,xU 2 s)(hu:∀u∈us,Sz 5 u)(hz:∀j,j≤S.length→Sz 16 (dt S us j))(hb:S.length<1000):
  CX (cal (k+8)) 77 [.slice aS lS cS,.slice aU lU cU] h n (NQ (dt S us S.length)):=by
 have hs5:∀s∈S,s.length<11∧xz s∧Sz 5 (z0 s):=fun s hs=>by
  obtain ⟨x,h1,h2,rfl⟩:=hS2 s hs;have h3:=(jW ⟨h1,h2⟩).mono (show 2≤5 by decide);exact ⟨Nat.lt_of_lt_of_le (wp (h3.mono zd)) zd,⟨_,rfl⟩,by rw [zX];exact h3⟩
 refine zk (fn:=Tryz.f77) R4 ?_;refine zG ?_;refine sA ?_;intro h1 p1 x1;refine zG ?_;refine sC (zh7 k (hS.ext x1 zs) (fun s hs=>(hs5 s hs).1) zo) ?_;rintro _ h2 n2 ⟨a2,l2,c2,ok2,rfl,hk2,iq⟩ y2 x2;have ht2:ok2=true:=hk2.2 (fun s hs=>(hs5 s hs).2.1);subst ht2;have iq:=iq rfl;have X2:Ext n h h2:=fun c hc=>(x2 c zo).trans (x1 c hc);refine zG ?_;refine sC (zh7 k (hU.ext X2 (show n≤n2 by omega)) (fun s hs=>by
  obtain ⟨u,hu',rfl⟩:=List.mem_map.1 hs;exact Nat.lt_of_lt_of_le (wp ((hu u hu').mono zd)) zd) (by rw [List.length_map];omega)) ?_
 rintro _ h3 n3 ⟨a3,l3,c3,ok3,rfl,hk3,iu⟩ y3 x3;have ht3:ok3=true:=hk3.2 (fun s hs=>by
  obtain ⟨u,hu',rfl⟩:=List.mem_map.1 hs;exact ⟨u,rfl⟩)
 subst ht3;have iu:=iu rfl;rw [List.map_map,show (z0 ∘ ratT)=id from funext fun q=>zX q,List.map_id] at iu;have q3:=(x3 _ zo).trans ((x2 _ zo).trans p1);have hdot:=zmq k (iq.ext x3 y3) iu (by rw [List.length_map];exact hl) (fun q hq=>by
  obtain ⟨s,hs,rfl⟩:=List.mem_map.1 hq;exact (hs5 s hs).2.2) hu (fun j hj=>by rw [zlo];rw [List.length_map] at hj;exact hz j hj) (by rw [List.length_map];exact hb)
 rw [zlo,List.length_map] at hdot;clear X2;refine zG ?_;refine sC hdot ?_;rintro _ h4 n4 ⟨b4,a4,l4,c4,d4,e4,f4,g4,rfl,i4,j4⟩ y4 x4;refine sS [.bool b4,.slice a4 l4 c4,.bool d4,.slice e4 f4 g4] ?_;intro h5 p5 s5;refine zq ?_;exact ⟨_,_,_,_,_,_,_,_,rfl,i4.t (Tr.s s5 (Tr.refl _ _)),j4.t (Tr.s s5 (Tr.refl _ _))⟩
theorem zgq (k:Nat){Ns:List Nat}{ds:List MD}{M:Nat→Nat→Nat→Rat}{E:List Ent}{aE aM:Option Addr}{lE cE lM cM:Nat}(ms:MS h n (.slice aM lM cM) ds M)(hd:ds.map (·.n)=Ns)(hN:∀N∈Ns,N≤8)(hs:Sl h n 4 (.slice aE lE cE) (ents E))(hE:∀e∈E,EntD Ns e)(hl:E.length<1000000)(hm:∀k i j,Sz 4 (M k i j))(hz:∀P Q,E=P++Q→Sz 13 (fm M P)):
  CX (cal (k+8)) 76 [.slice aE lE cE,.slice aM lM cM] h n (NQ (fm M E)):=by
 have l1:lE=E.length:=hs.lenEq zo (yQ _);subst l1;refine zk (fn:=Tryz.f76) R4 ?_;refine zG ?_;refine sA ?_;intro h1 p1 x1;refine zG ?_;refine sA ?_;intro h2 p2 x2;have X2:Ex0 n h h2:=⟨(zx:Tx n h (n+1+1) h2).2⟩;obtain ⟨e1,q1⟩:∃e,h2 (3*n+2)=some (.row [.bool false,.slice none 0 0,.bool false,.slice none 0 0] e):=⟨_,zp⟩;have b2:Box4 h2 (n+1+1) (3*(n+1)+2) (fm M (E.take 0)):=⟨zo,_,_,_,_,_,_,_,_,_,p2,UI.zero _ _,UI.zero _ _⟩;clear p1 x1 p2 x2;refine zG ?_;refine sF (α:=Nat) (fun z=>[(1,.slice aM lM cM),(4,.pointer (some ⟨3*n+2,0,none⟩)),(5,.pointer (some ⟨3*(n+1)+2,0,none⟩)),(9,.slice aE E.length cE),(10,.int .i64 (E.length:Int)),(11,.int .i64 (z:Int))])
  (fun z h' n' w'=>w'=[]∧n+1+1≤n'∧Ex0 n h h'∧h' (3*n+2)=some (.row [.bool false,.slice none 0 0,.bool false,.slice none 0 0] e1)∧Box4 h' n' (3*(n+1)+2) (fm M (E.take z))∧z≤E.length) (fun z=>E.length-z) 0 ⟨rfl,Nat.le_refl _,X2,q1,b2,Nat.zero_le _⟩ ?_
 rintro z t h4 n4 _ ⟨rfl,y4,E4,q4,⟨hb4,s1,a1,l1,c1,s2,a2,l2',c2,e2,p4,i4,j4⟩,hz4⟩;have y4:n+1+1≤n4:=y4;have hz4:z≤E.length:=hz4;clear X2 q1 b2;refine zG ?_;by_cases qz:(z:Int)<(E.length:Int)
 ·obtain ⟨e0,hge⟩:∃e,E[z]?=some e:=⟨_,List.getElem?_eq_getElem zo⟩;obtain ⟨k0,N,i0,j0,v,rfl,hk0,hij,hjN,sv⟩:=hE e0 (List.mem_of_getElem? hge);obtain ⟨d,hdk,hdn⟩:∃d,ds[k0]?=some d∧d.n=N:=by
   rw [←hd,List.getElem?_map] at hk0;cases h:ds[k0]? with
   |none=>rw [h] at hk0;cases hk0
   |some d=>rw [h] at hk0;exact ⟨d,rfl,Option.some.inj hk0⟩
  subst hdn;have hN8:=hN d.n (List.mem_of_getElem? hk0);have h64:d.n*d.n≤8*8:=Nat.mul_le_mul hN8 hN8;have hiN:i0<d.n:=zo;have eij:=tK hiN hjN;have sv2:Sz 2 v:=FN.sz sv zd zd zd;have hstep:fm M (E.take z)+v*M k0 i0 j0=fm M (E.take (z+1)):=by rw [xf hge,zbi]
  obtain ⟨bq,oq,eq1,mq,rq,tq⟩:=mn (hs.ext E4.e (show n≤n4 by omega)) hge;refine zG ?_;refine sI eq1 rq ?_;refine sL tq mq 0 ?_;refine sA ?_;intro h5 p5 x5;refine sS [.int .i64 (k0:Int),.int .i64 (i0:Int),.int .i64 (j0:Int),.string ⟨⟨ratT v⟩⟩] ?_;intro h6 p6 o6;have X6:Ext n4 h4 h6:=(zx:Tx n4 h4 (n4+1) h6).2;have ms6:=ms.ext (fun c hc=>(X6 c zo).trans (E4.e c hc)) (show n≤n4+1 by omega);obtain ⟨b7,o7,c7,e7,m7,r7,t7,_,f7⟩:=RS.at' zd ms6.r hdk;have f7:c7=[.int .i64 (d.n:Int),.int .i64 (d.n:Int),.slice d.a (d.n*d.n) d.c]:=f7;subst f7;refine zG ?_;refine sI (j:=k0) e7 r7 ?_;refine sL t7 m7 0 ?_;refine sA ?_;intro h8 p8 x8;refine sS [.int .i64 (d.n:Int),.int .i64 (d.n:Int),.slice d.a (d.n*d.n) d.c] ?_;intro h9 p9 o9;obtain ⟨e6,q6⟩:∃e,h9 (3*n4+2)=some (.row [.int .i64 (k0:Int),.int .i64 (i0:Int),.int .i64 (j0:Int),.string ⟨⟨ratT v⟩⟩] e):=⟨_,zp⟩;have X9:Ext n4 h4 h9:=(zx:Tx n4 h4 (n4+1+1) h9).2;have E9:Ex0 n h h9:=⟨fun c hc=>(X9 c zo).trans (E4.e c hc)⟩;have ms9:=ms.ext E9.e (show n≤n4+1+1 by omega);have i9:=i4.x ⟨show n4≤n4+1+1 by omega,X9⟩;have j9:=j4.x ⟨show n4≤n4+1+1 by omega,X9⟩;have p49:=(X9 _ hb4).trans p4;have q49:=(X9 (3*n+2) zo).trans q4;clear p5 x5 p6 o6 x8 o9 X6 X9 ms6 t7;obtain ⟨b12,o12,e12,mm12,r12,t12⟩:=xp (ms9.t _ _ hdk) (show ((tabL d.n (M k0)).map ratT)[i0*d.n+j0]?=some (ratT (M k0 i0 j0)) by rw [List.getElem?_map,wo hiN hjN];rfl);refine zG ?_;refine zl [0,0,2,6,0,16,0,64,0,256,960,0,2048,8128,16368,32752,65534,131070,262143,524287] rfl ?_;refine zH ?_;refine dC (numU k _ _ (ratT v) (Nat.lt_of_lt_of_le (wp (sv2.mono zd)) zd)) ?_;rintro _ h13 n13 ⟨b13,a13,l13,c13,d13,e13,f13,g13,rfl,i13,j13⟩ y13 x13;rw [zX] at i13 j13;refine zH ?_;refine dMu i0 d.n zo ?_;refine zH ?_;refine dI (j:=i0*d.n+j0) e12 r12 ?_;refine dL t12 mm12 0 ?_;refine dC (numU k _ _ (ratT (M k0 i0 j0)) (Nat.lt_of_lt_of_le (wp ((hm k0 i0 j0).mono zd)) zd)) ?_;rintro _ h14 n14 ⟨b14,a14,l14,c14,d14,e14,f14,g14,rfl,i14,j14⟩ y14 x14;rw [zX] at i14 j14;refine dC (zdz (k+1) (i13.x ⟨y14,x14⟩) (j13.x ⟨y14,x14⟩) i14 j14 sv2 (hm k0 i0 j0) zo) ?_;rintro _ h15 n15 ⟨b15,a15,l15,c15,d15,e15,f15,g15,rfl,i15,j15⟩ y15 x15;have X15:Ext (n4+1+1) h9 h15:=fun c hc=>(x15 c zo).trans ((x14 c zo).trans (x13 c hc));refine dC (dp (k+1) (i9.x ⟨zo,X15⟩) (j9.x ⟨zo,X15⟩) i15 j15 (hz _ _ (List.take_append_drop z E).symm) (sv2.mul (hm k0 i0 j0)) zo) ?_;rintro _ h16 n16 ⟨b16,a16,l16,c16,d16,e16,f16,g16,rfl,i16,j16⟩ y16 x16;rw [hstep] at i16 j16;have X16:Ext (n4+1+1) h9 h16:=fun c hc=>(x16 c zo).trans (X15 c hc);refine dSx (n0:=n) [.bool b16,.slice a16 l16 c16,.bool d16,.slice e16 f16 g16] ((X16 _ zo).trans p49) ?_;intro h17 p17 s17;rw [xv (show 3*n≤3*(n+1)+2 by omega)];have E17:Ex0 n h h17:=⟨fun c hc=>(s17.1 c zo).trans ((X16 c zo).trans (E9.e c hc))⟩;have q17:=(s17.1 (3*n+2) zo).trans ((X16 _ zo).trans q49);clear x13 x14 x15 x16 X15 X16;refine zG ?_;exact sK (z+1) ⟨rfl,zo,E17,q17,⟨zo,_,_,_,_,_,_,_,_,_,p17,i16.t (Tr.s s17 (Tr.refl _ _)),j16.t (Tr.s s17 (Tr.refl _ _))⟩,by show z+1≤E.length;omega⟩
 have hze:z=E.length:=zo;subst hze;rw [List.take_length] at i4 j4;have X4:Ext n h h4:=E4.e;have y44:n≤n4:=zo;refine zG ?_;refine sS [.bool s1,.slice a1 l1 c1,.bool s2,.slice a2 l2' c2] ?_;intro h5 p5 s5;refine zq ?_;exact ⟨_,_,_,_,_,_,_,_,rfl,i4.t (Tr.s s5 (Tr.refl _ _)),j4.t (Tr.s s5 (Tr.refl _ _))⟩
end
end
section
variable {s:List UInt8}{N:Nat}{a:Option Addr}
theorem om {K:Int}(hK:K≤4)(h:xU K s):s.length<11∧xz s:=by
 obtain ⟨x,h1,h2,rfl⟩:=h;have sx:Sz 3 (x:Rat):=by
  refine ⟨?_,?_⟩
  ·rw [Rat.num_intCast];show x.natAbs<8;omega
  rw [Rat.den_intCast];decide
 exact ⟨Nat.lt_of_lt_of_le (wp (sx.mono zd)) zd,⟨_,rfl⟩⟩
theorem EOk.listV {B:List Int}{E:List Ent}{b r c:Int}(h:EOk B E b r c):zc2 B E:=fun j e hj=>by
 have he:=h.ok e (List.mem_of_getElem? hj);obtain ⟨x,h1,h2,h3,h4⟩:=he.v;refine ⟨⟨he.b,he.rc,he.c⟩,fun f h0 hf=>?_,by rw [h4];exact ⟨_,rfl⟩,fun h5=>?_⟩
 ·have hl:=(List.getElem?_eq_some_iff.1 hj).1;have:=List.pairwise_iff_getElem.1 h.asc (j-1) j zo hl zo;rw [(List.getElem?_eq_some_iff.1 hj).2,(List.getElem?_eq_some_iff.1 hf).2] at this;exact this
 rw [h4] at h5;have:=rk (h5.trans rY.symm);exact h3 (Rat.intCast_inj.1 this)
theorem SdpOk.valid {F least:Nat}{p:Sdp}(hok:SdpOk F least p)(hF:F≤100):SdpB p∧SdpV p p.free:=by
 have h1:=hok.bl;have h2:=hok.objl;have h3:=hok.ofl;have h4:=hok.eql;have h5:=hok.free;have hel:∀{E:List Ent},EOk p.blocks E p.blocks.length 0 0→∀e∈E,e.v.length<11:=fun h e he=>by
  obtain ⟨x,h1,h2,_,h4⟩:=(h.ok e he).v;exact (om (K:=2) zd ⟨x,h1,h2,h4⟩).1
 refine ⟨⟨zo,zo,zo,zo,hel hok.obj,fun s hs=>(om zd (hok.ofs s hs)).1,fun q hq=>?_⟩,⟨zo,zo,zo,fun d hd=>by have:=hok.b3 d hd;omega,hok.obj.listV,zo,fun s hs=>(om zd (hok.ofs s hs)).2,fun q hq=>?_⟩⟩
 ·obtain ⟨g1,g2,g3,g4,g5⟩:=hok.eqo q hq;refine ⟨zo,zo,hel g1,fun s hs=>?_⟩;rcases List.mem_cons.1 hs with rfl|hs
  ·exact (om zd g5).1
  exact (om zd (g4 s hs)).1
 obtain ⟨g1,g2,g3,g4,g5⟩:=hok.eqo q hq;refine ⟨g1.listV,zo,fun s hs=>?_⟩;rcases List.mem_cons.1 hs with rfl|hs
 ·exact (om zd g5).2
 exact (om zd (g4 s hs)).2
section
variable {h:HF}{n:Nat}{p:Sdp}{F least:Nat}{aB aO aF aE:Option Addr}{lB cB lO cO lF cF lE cE:Nat}{aX aU:Option Addr}{lX cX lU cU:Nat}{ds:List MD}{M:Nat→Nat→Nat→Rat}{us:List Rat}
theorem zhp (k:Nat){c:Nat}{A:Nat→Nat→Rat}(hN:1≤N∧N≤3)(s:Sl h n 1 (.slice a (N*N) c) (strs ((tabL N A).map ratT)))(hP:∀i j,Sz 4 (A i j))(hs:∀i j,A i j=A j i):
  CX (cal (k+9)) 143 [.agg #[.int .i64 (N:Int),.int .i64 (N:Int),.slice a (N*N) c]] h n fun v _ _=>∃a' l' c',v=.tuple #[.slice a' l' c',.int .i64 0]:=by
 have h9:=sq9 hN.2;refine zk (fn:=Tryz.f143) R4 ?_;refine zG ?_;refine sB [.int .i64 (N:Int),.int .i64 (N:Int),.slice a (N*N) c] ?_;intro h1 p1 x1;refine zG ?_;refine sC (zkl k hN (s.ext x1 zs) (fun i j _ _=>hP i j) zd) ?_;rintro _ h2 n2 ⟨ar,rfl,_⟩ y2 x2;obtain ⟨e1,q2⟩:∃e,h2 (3*n+2)=some (.row [.int .i64 (N:Int),.int .i64 (N:Int),.slice a (N*N) c] e):=⟨_,zp⟩;have E2:Ex0 n h h2:=⟨fun c hc=>(x2 c zo).trans (x1 c hc)⟩;clear x1 x2 p1;refine zG ?_;refine sF (α:=Nat) (fun z=>[(1,.pointer (some ⟨3*n+2,0,none⟩)),(4,.slice ar N N),(6,.int .i64 (z:Int))])
  (fun z h' n' w'=>w'=[]∧n2=n'∧h2=h'∧z≤N) (fun z=>N-z) 0 ⟨rfl,rfl,rfl,Nat.zero_le _⟩ ?_
 rintro i t _ _ _ ⟨rfl,rfl,rfl,hi⟩;have hi:i≤N:=hi;refine zG ?_;by_cases qi:(i:Int)<(N:Int)
 ·have hiN:i<N:=zo;refine zG ?_;refine sF (α:=Nat) (fun z=>[(1,.pointer (some ⟨3*n+2,0,none⟩)),(4,.slice ar N N),(6,.int .i64 (i:Int)),(7,.int .i64 (z:Int))])
   (fun z h' n' w'=>w'=[]∧n2=n'∧h2=h'∧z≤i) (fun z=>i-z) 0 ⟨rfl,rfl,rfl,Nat.zero_le _⟩ ?_
  rintro j t _ _ _ ⟨rfl,rfl,rfl,hj⟩;have hj:j≤i:=hj;refine zG ?_;by_cases qj:(j:Int)<(i:Int)
  ·have hjN:j<N:=zo;have eij:=tK hiN hjN;have eji:=tK hjN hiN;have y22:n≤n2:=zo;obtain ⟨b3,o3,e3,m3,r3,t3⟩:=xp (s.ext E2.e y22) (show ((tabL N A).map ratT)[i*N+j]?=some (ratT (A i j)) by rw [List.getElem?_map,wo hiN hjN];rfl);obtain ⟨b4,o4,e4,m4,r4,t4⟩:=xp (s.ext E2.e y22) (show ((tabL N A).map ratT)[j*N+i]?=some (ratT (A i j)) by rw [List.getElem?_map,wo hjN hiN,hs j i];rfl);refine zG ?_;refine zl [0,1,0,0,8,28,0,124,255,511,0,1024,0,0,8192,28672,0,126976,261120,523264,1048575] rfl ?_;refine zH ?_;refine dMu i N zo ?_;refine zH ?_;refine dI (j:=i*N+j) e3 r3 ?_;refine dL t3 m3 0 ?_;refine zH ?_;refine dMu j N zo ?_;refine zH ?_;refine dI (j:=j*N+i) e4 r4 ?_;refine dL t4 m4 0 ?_;refine dQn true (beq_self_eq_true _) ?_;refine zH ?_;refine zG ?_;exact sK (j+1) ⟨rfl,rfl,rfl,by show j+1≤i;omega⟩
  refine zG ?_;exact sK (i+1) ⟨rfl,rfl,rfl,by show i+1≤N;omega⟩
 have X2:Ext n h h2:=E2.e;have y22:n≤n2:=zo;refine zG ?_;refine zq ?_;exact ⟨_,_,_,rfl⟩
theorem zmb (k:Nat){c:Nat}{A:Nat→Nat→Rat}(hN:1≤N∧N≤3)(s:Sl h n 1 (.slice a (N*N) c) (strs ((tabL N A).map ratT)))(hP:∀i j,Sz 4 (A i j))(hs:∀i j,A i j=A j i):
  VF (cal (k+10)) 101 [.agg #[.int .i64 (N:Int),.int .i64 (N:Int),.slice a (N*N) c],.int .i64 (N:Int)] h n fun v=>v=.bool true:=by
 refine zw (fn:=Tryz.f101) R4 ?_;refine zG ?_;refine sB [.int .i64 (N:Int),.int .i64 (N:Int),.slice a (N*N) c] ?_;intro h1 p1 x1;refine zG ?_;refine sC (zhp k hN (s.ext x1 zs) hP hs) ?_;rintro _ h2 n2 ⟨a2,l2,c2,rfl⟩ y2 x2;refine zG ?_;refine zf ?_;rfl
theorem bD (k:Nat)(hF:F≤100)(hp:SdpR h n (.slice aB lB cB) (.slice aO lO cO) (.slice aF lF cF) (.slice aE lE cE) p)(hok:SdpOk F least p)(hx:PtR h n (.slice aX lX cX) (.slice aU lU cU) p ds M us)(B:PtB p ds M us):
  VF (cal (k+11)) 58 [.agg #[.slice aB lB cB,.int .i64 (p.free:Int),.slice aO lO cO,.slice aF lF cF,.slice aE lE cE],.agg #[.slice aX lX cX,.slice aU lU cU]] h n fun v=>v=.bool true:=by
 have hbl:=hok.bl;have hfr:=hok.free;have hV:=hok.valid hF;have hdl:(dimN p).length=p.blocks.length:=by unfold dimN;rw [List.length_map]
 have hds:ds.length=p.blocks.length:=by rw [←hdl,←B.d,List.length_map]
 have lX1:lX=ds.length:=hx.m.r.len' zd;have lU1:=vi hx.u;rw [List.length_map,B.l] at lU1;have lB1:lB=p.blocks.length:=hp.blocks.lenEq zo (by unfold i64s;rw [List.length_map,Nat.mul_one]);subst lX1 lU1 lB1;have hBg:∀{j N:Nat},(dimN p)[j]?=some N→p.blocks[j]?=some (N:Int)∧1≤N∧N≤3:=fun {j N} hj=>by
  unfold dimN at hj;rw [List.getElem?_map] at hj;cases hb:p.blocks[j]? with
  |none=>rw [hb] at hj;cases hj
  |some d=>
   rw [hb] at hj;have:=hok.b3 d (List.mem_of_getElem? hb);have hj:d.toNat=N:=Option.some.inj hj;rw [show (N:Int)=d by omega];exact ⟨rfl,zo,zo⟩
 refine zw (fn:=Tryz.f58) R4 ?_;refine zG ?_;refine sB [.slice aB p.blocks.length cB,.int .i64 (p.free:Int),.slice aO lO cO,.slice aF lF cF,.slice aE lE cE] ?_;intro h1 p1 x1;refine sB [.slice aX ds.length cX,.slice aU p.free cU] ?_;intro h2 p2 x2;refine zG ?_;have X2:Ex0 n h h2:=⟨(zx:Tx n h (n+1+1) h2).2⟩;have hp2:=hp.ext0 X2.e (show n≤n+1+1 by omega);have hx2:=hx.ext X2.e (show n≤n+1+1 by omega);have hv:=iw (k+1) (fr:=(p.free:Int)) hp2 hV.1;refine sC hv.cx ?_;rintro _ h3 n3 ⟨bv,rfl,hbv⟩ y3 x3;have hbt:bv=true:=hbv.2 hV.2;subst hbt;refine zG ?_;refine sC (tY (k+2) (hx2.u.ext x3 y3) (fun s hs=>by
  obtain ⟨u,hu,rfl⟩:=List.mem_map.1 hs;exact Nat.lt_of_lt_of_le (wp ((B.r u hu).ok.1.mono zd)) zd) (by rw [List.length_map,B.l];omega)).cx ?_
 rintro _ h4 n4 ⟨b4,rfl,hb4⟩ y4 x4;have hb:b4=true:=hb4.2 (fun s hs=>by
  obtain ⟨u,hu,rfl⟩:=List.mem_map.1 hs;exact ⟨u,rfl⟩)
 subst hb;have X4:Ex0 n h h4:=⟨fun c hc=>(x4 c zo).trans ((x3 c zo).trans (X2.e c hc))⟩;obtain ⟨e1,q1⟩:∃e,h4 (3*n+2)=some (.row [.slice aB p.blocks.length cB,.int .i64 (p.free:Int),.slice aO lO cO,.slice aF lF cF,.slice aE lE cE] e):=⟨_,zp⟩;obtain ⟨e2,q2⟩:∃e,h4 (3*(n+1)+2)=some (.row [.slice aX ds.length cX,.slice aU p.free cU] e):=⟨_,zp⟩;have y44:n+1+1≤n4:=zo;clear x1 x2 x3 x4 p1 p2 X2 hp2 hx2;refine zG ?_;refine sF (α:=Nat) (fun z=>[(2,.pointer (some ⟨3*n+2,0,none⟩)),(34,.slice aX ds.length cX),(35,.int .i64 (ds.length:Int)),(36,.int .i64 (z:Int))])
  (fun z h' n' w'=>w'=[]∧n4≤n'∧Ex0 n h h'∧h' (3*n+2)=some (.row [.slice aB p.blocks.length cB,.int .i64 (p.free:Int),.slice aO lO cO,.slice aF lF cF,.slice aE lE cE] e1)∧z≤ds.length) (fun z=>ds.length-z) 0 ⟨rfl,Nat.le_refl _,X4,q1,Nat.zero_le _⟩ ?_
 rintro j t h5 n5 _ ⟨rfl,y5,X5,q5,hj⟩;have y5:n4≤n5:=y5;have hj:j≤ds.length:=hj;clear q1 X4;refine zG ?_;by_cases qj:(j:Int)<(ds.length:Int)
 ·obtain ⟨d,hd⟩:∃d,ds[j]?=some d:=⟨_,List.getElem?_eq_getElem zo⟩;obtain ⟨hdB,hd3⟩:=hBg (B.dn hd);have hx5:=hx.ext X5.e (show n≤n5 by omega);refine zG ?_;obtain ⟨b6,o6,c6,e6,m6,r6,t6,_,f6⟩:=RS.at' zd hx5.m.r hd;have f6:c6=[.int .i64 (d.n:Int),.int .i64 (d.n:Int),.slice d.a (d.n*d.n) d.c]:=f6;subst f6;refine sI e6 r6 ?_;refine sL t6 m6 0 ?_;refine sA ?_;intro h7 p7 x7;refine zG ?_;refine sS [.int .i64 (d.n:Int),.int .i64 (d.n:Int),.slice d.a (d.n*d.n) d.c] ?_;intro h8 p8 o8;have X8:Ext n5 h5 h8:=(zx:Tx n5 h5 (n5+1) h8).2;have q8:=(X8 (3*n+2) zo).trans q5;have X08:Ext n h h8:=fun c hc=>(X8 c zo).trans (X5.e c hc);have hx8:=hx5.ext X8 zs;clear x7 p7 o8;obtain ⟨b9,o9,e9,m9,r9,t9⟩:=qh (hp.blocks.ext X08 (show n≤n5+1 by omega)) hdB;refine zG ?_;refine zl [0,0,2,0,14,30,63,127] rfl ?_;refine zH ?_;refine dI (j:=j) e9 r9 ?_;refine dL t9 m9 0 ?_;refine zH ?_;refine dC (zmb k hd3 (hx8.m.t _ _ hd) (B.mz j) (B.s j)).cx ?_;rintro _ h10 n10 rfl y10 x10;refine zH ?_;refine zG ?_;exact sK (j+1) ⟨rfl,zo,⟨fun c hc=>(x10 c zo).trans (X08 c hc)⟩,(x10 _ zo).trans q8,by show j+1≤ds.length;omega⟩
 refine zG ?_;refine zf ?_;rfl
end
end
section
section
variable {h:HF}{n:Nat}{p:Sdp}{F least:Nat}{aB aO aF aE:Option Addr}{lB cB lO cO lF cF lE cE:Nat}{aX aU:Option Addr}{lX cX lU cU:Nat}{ds:List MD}{M:Nat→Nat→Nat→Rat}{us:List Rat}
theorem PtB.fz13 (B:PtB p ds M us){E:List Ent}(hE:∀e∈E,EntD (dimN p) e)(hl:E.length≤256):Sz 13 (fm M E):=FN.sz (zbj B.b hE) zd zd zo
theorem PtB.tz16 (B:PtB p ds M us){S:List (List UInt8)}(hS:∀s∈S,xU 2 s){j:Nat}(hj:j≤100):Sz 16 (dt S us j):=FN.sz (zbv hS (fun u hu=>B.uf hu) j) zd zd zo
theorem PtB.u5 (B:PtB p ds M us){u:Rat}(hu:u∈us):Sz 5 u:=(B.r u hu).ok.1.mono zd
theorem SdpOk.n8 (hok:SdpOk F least p):∀N∈dimN p,N≤8:=fun N hN=>by
 obtain ⟨d,hd,rfl⟩:=List.mem_map.1 hN;have:=hok.b3 d hd;omega
theorem zg8 (k:Nat)(hF:F≤100)(hp:SdpR h n (.slice aB lB cB) (.slice aO lO cO) (.slice aF lF cF) (.slice aE lE cE) p)(hok:SdpOk F least p)(hx:PtR h n (.slice aX lX cX) (.slice aU lU cU) p ds M us)(B:PtB p ds M us):
  CX (cal (k+9)) 61 [.agg #[.slice aB lB cB,.int .i64 (p.free:Int),.slice aO lO cO,.slice aF lF cF,.slice aE lE cE],.agg #[.slice aX lX cX,.slice aU lU cU]] h n (NQ (vaQ p M us)):=by
 have hfr:=hok.free;have hE:∀e∈p.obj,EntD (dimN p) e:=fun e he=>(hok.obj.ok e he).f.d;have hol:=hok.objl;have hof:p.objFree.length=p.free:=hok.ofl;refine zk (fn:=Tryz.f61) R4 ?_;refine zG ?_;refine sB [.slice aB lB cB,.int .i64 (p.free:Int),.slice aO lO cO,.slice aF lF cF,.slice aE lE cE] ?_;intro h1 p1 x1;refine sB [.slice aX lX cX,.slice aU lU cU] ?_;intro h2 p2 x2;refine sA ?_;intro h3 p3 x3;refine zG ?_;have X3:Ex0 n h h3:=⟨(zx:Tx n h (n+1+1+1) h3).2⟩;have y3:n≤n+1+1+1:=zo;have hp3:=hp.ext0 X3.e y3;have hx3:=hx.ext X3.e y3;have hform:=zgq k hx3.m B.d hok.n8 hp3.obj hE zo B.mz (fun P Q e=>B.fz13 (fun x hx=>hE x (by rw [e];exact List.mem_append_left _ hx)) (by rw [e,List.length_append] at hol;omega));refine zl [0,1,0,4,15,0,32,0,128,511,1023,2047] rfl ?_;refine zH ?_;refine dC hform ?_;rintro _ h4 n4 ⟨b4,a4,l4,c4,d4,e4,f4,g4,rfl,i4,j4⟩ y4 x4;refine zH ?_;have hdot:=zgl k (hp3.objFree.ext x4 y4) (hx3.u.ext x4 y4) (by rw [B.l,hof]) hok.ofs (fun u hu=>B.u5 hu) (fun j hj=>B.tz16 hok.ofs zo) zo;rw [hof] at hdot;refine dC hdot ?_;rintro _ h5 n5 ⟨b5,a5,l5,c5,d5,e5,f5,g5,rfl,i5,j5⟩ y5 x5;have hadd:=dp (k+2) (i4.x ⟨y5,x5⟩) (j4.x ⟨y5,x5⟩) i5 j5 (B.fz13 hE zo) (B.tz16 hok.ofs (j:=p.free) zo) zo;refine dC hadd ?_;rintro _ h6 n6 ⟨b6,a6,l6,c6,d6,e6,f6,g6,rfl,i6,j6⟩ y6 x6;have p6:=(x6 (3*(n+1+1)+2) zo).trans ((x5 _ zo).trans ((x4 _ zo).trans p3));refine dSx (n0:=n) [.bool b6,.slice a6 l6 c6,.bool d6,.slice e6 f6 g6] p6 ?_;intro h7 p7 s7;rw [xv (show 3*n≤3*(n+1+1)+2 by omega)];refine zq ?_;exact ⟨_,_,_,_,_,_,_,_,rfl,i6.t (Tr.s s7 (Tr.refl _ _)),j6.t (Tr.s s7 (Tr.refl _ _))⟩
theorem PtB.lz17 (B:PtB p ds M us){i:Nat}{q:Eqn}{x:Int}(hq:EqD p i q x)(hfr:p.free≤100):Sz 17 (fm M q.es+dt q.fr us p.free):=by
 have h1:=(zbj B.b hq.ee).up 12;have h2:=zbv hq.f2 (fun u hu=>B.uf hu) p.free;refine FN.sz (D:=12) (h1.add h2) zd zd ?_;have:=hq.el;omega
theorem aH (k:Nat)(hF:F≤100)(hp:SdpR h n (.slice aB lB cB) (.slice aO lO cO) (.slice aF lF cF) (.slice aE lE cE) p)(hok:SdpOk F least p)(hx:PtR h n (.slice aX lX cX) (.slice aU lU cU) p ds M us)(B:PtB p ds M us):
  CX (cal (k+9)) 34 [.agg #[.slice aB lB cB,.int .i64 (p.free:Int),.slice aO lO cO,.slice aF lF cF,.slice aE lE cE],.agg #[.slice aX lX cX,.slice aU lU cU]] h n fun v h' n'=>∃a,v=.slice a p.eqs.length p.eqs.length∧NS h' n' v ((List.range p.eqs.length).map (rsQ p M us)):=by
 have hfr:=hok.free;have heq:=hok.eql;have lE1:lE=p.eqs.length:=by
  obtain ⟨ce,hE,hEq⟩:=hp.eqs;exact hE.lenEq zo hEq.len
 subst lE1;refine zk (fn:=Tryz.f34) R4 ?_;refine zG ?_;refine sB [.slice aB lB cB,.int .i64 (p.free:Int),.slice aO lO cO,.slice aF lF cF,.slice aE p.eqs.length cE] ?_;intro h1 p1 x1;refine sB [.slice aX lX cX,.slice aU lU cU] ?_;intro h2 p2 x2;refine zG ?_;have X2:Ex0 n h h2:=⟨(zx:Tx n h (n+1+1) h2).2⟩;obtain ⟨e2,q2⟩:∃e,h2 (3*(n+1)+2)=some (.row [.slice aX lX cX,.slice aU lU cU] e):=⟨_,zp⟩;clear x1 x2 p1 p2;refine sF (α:=Nat×Value) (fun z=>[(3,.pointer (some ⟨3*(n+1)+2,0,none⟩)),(5,z.2),(9,.slice aE p.eqs.length cE),(10,.int .i64 (p.eqs.length:Int)),(11,.int .i64 (z.1:Int))])
  (fun z h' n' w'=>w'=[]∧n+1+1≤n'∧Ex0 n h h'∧h' (3*(n+1)+2)=some (.row [.slice aX lX cX,.slice aU lU cU] e2)∧GR 4 numP (n+1+1) h' n' 51 z.2 ((List.range z.1).map (rsQ p M us))∧z.1≤p.eqs.length) (fun z=>p.eqs.length-z.1) (0,.slice none 0 0) ⟨rfl,Nat.le_refl _,X2,q2,GR.nil,Nat.zero_le _⟩ ?_
 rintro ⟨i,v⟩ t h8 n8 _ ⟨rfl,y8,E8,q8,g8,hi⟩;have hi:i≤p.eqs.length:=hi;have y8:n+1+1≤n8:=y8;have g8:GR 4 numP (n+1+1) h8 n8 51 v ((List.range i).map (rsQ p M us)):=g8;have hl8:((List.range i).map (rsQ p M us)).length=i:=by rw [List.length_map,List.length_range]
 obtain ⟨av,rfl⟩:=g8.shape hl8;clear q2 X2;refine zG ?_;by_cases qi:(i:Int)<(p.eqs.length:Int)
 ·obtain ⟨q,hq⟩:∃q,p.eqs[i]?=some q:=⟨_,List.getElem?_eq_getElem zo⟩;obtain ⟨x,hd⟩:=hok.eqd hq;have hrs:rsQ p M us i=fm M q.es+dt q.fr us p.free-(x:Rat):=by
   unfold rsQ;rw [hd.es,hd.fs,hd.rh]
  obtain ⟨ce,hE,hEq⟩:=hp.eqs;obtain ⟨ve,vf,ec,s1,s2⟩:=hEq.get hq;obtain ⟨a1,l1,c1,rfl,ll1⟩:=s1.len;obtain ⟨a2,l2,c2,rfl,ll2⟩:=s2.len;have hel:=hd.el;have ll1:l1=q.es.length:=s1.lenEq zo (yQ _);subst ll1;rw [hd.r] at ec;refine zG ?_;obtain ⟨b9,o9,e9,mm9,r9,t9⟩:=mR (hE.ext E8.e (show n≤n8 by omega)) ec rfl zd;refine sI e9 r9 ?_;refine sL t9 mm9 0 ?_;refine sA ?_;intro h10 p10 x10;refine zG ?_;refine sS [.slice a1 q.es.length c1,.slice a2 l2 c2,.string ⟨⟨ratT (x:Rat)⟩⟩] ?_;intro h11 p11 o11;have X11:Ext n8 h8 h11:=(zx:Tx n8 h8 (n8+1) h11).2;have q11:=(X11 (3*(n+1)+2) zo).trans q8;have E11:Ex0 n h h11:=⟨fun c hc=>(X11 c zo).trans (E8.e c hc)⟩;have g11:=g8.go numP.kp ⟨Nat.le_succ n8,fun c hc=>.inl (X11 c hc)⟩ (fun b hb=>X11 b (g8.bk b hb).2.1);have y11:n≤n8+1:=zo;have hx11:=hx.ext E11.e y11;obtain ⟨e11,q7⟩:∃e,h11 (3*n8+2)=some (.row [.slice a1 q.es.length c1,.slice a2 l2 c2,.string ⟨⟨ratT (x:Rat)⟩⟩] e):=⟨_,zp⟩;clear x10 p10 o11 X11 p11;refine zG ?_;refine zl [0,0,2,0,8,30,0,64,0,256,1022,2046,0,4096,16382,32766,65534,131071,262143] rfl ?_;refine zH ?_;have hform:=zgq k hx11.m B.d hok.n8 (s1.ext E11.e y11) hd.ee zo B.mz (fun P Q e=>B.fz13 (fun x hx=>hd.ee x (by rw [e];exact List.mem_append_left _ hx)) (by rw [e,List.length_append] at hel;omega));refine dC hform ?_;rintro _ h12 n12 ⟨b12,a12,l12,c12,d12,e12,f12,g12,rfl,i12,j12⟩ y12 x12;refine zH ?_;have hdot:=zgl k ((s2.ext E11.e y11).ext x12 y12) (hx11.u.ext x12 y12) (by rw [B.l,hd.fl]) hd.f2 (fun u hu=>B.u5 hu) (fun j hj=>B.tz16 hd.f2 (by have:=hd.fl;omega)) (by have:=hd.fl;omega);rw [hd.fl] at hdot;refine dC hdot ?_;rintro _ h13 n13 ⟨b13,a13,l13,c13,d13,e13,f13,g13,rfl,i13,j13⟩ y13 x13;have hadd:=dp (k+2) (i12.x ⟨y13,x13⟩) (j12.x ⟨y13,x13⟩) i13 j13 (B.fz13 hd.ee hel) (B.tz16 hd.f2 (j:=p.free) zo) zo;refine dC hadd ?_;rintro _ h14 n14 ⟨b14,a14,l14,c14,d14,e14,f14,g14,rfl,i14,j14⟩ y14 x14;have q14:=(x14 (3*n8+2) zo).trans ((x13 _ zo).trans ((x12 _ zo).trans q7));refine zH ?_;have hnum:=numU (k+1) h14 n14 (ratT (x:Rat)) (Nat.lt_of_lt_of_le (wp (hd.sx.mono zd)) zd);rw [zX] at hnum;refine dC hnum ?_;rintro _ h15 n15 ⟨b15,a15,l15,c15,d15,e15,f15,g15,rfl,i15,j15⟩ y15 x15;have hsub:=zkk (k+1) (i14.x ⟨y15,x15⟩) (j14.x ⟨y15,x15⟩) i15 j15 (B.lz17 hd zo) hd.sx zo;rw [←hrs] at hsub;refine dC hsub ?_;rintro _ h16 n16 ⟨b16,a16,l16,c16,d16,e16,f16,g16,rfl,i16,j16⟩ y16 x16;have X16:Ext (n8+1) h11 h16:=fun c hc=>(x16 c zo).trans ((x15 c zo).trans ((x14 c zo).trans ((x13 c zo).trans (x12 c hc))));have g16':=g11.go numP.kp ⟨show n8+1≤n16 by omega,fun c hc=>.inl (X16 c hc)⟩ (fun b hb=>X16 b (g11.bk b hb).2.1);have q16:=(X16 (3*(n+1)+2) zo).trans q11;have E16:Ex0 n h h16:=⟨fun c hc=>(X16 c zo).trans (E11.e c hc)⟩;clear x12 x13 x14 x15 x16 X16 g11 q11 q14 q7;refine dMs [.bool b16,.slice a16 l16 c16,.bool d16,.slice e16 f16 g16] ?_;intro h17 p17 x17;have i17:=i16.t ⟨Nat.le_succ _,fun c hc=>.inl (x17 c hc)⟩;have j17:=j16.t ⟨Nat.le_succ _,fun c hc=>.inl (x17 c hc)⟩;have g17:=g16'.go numP.kp ⟨Nat.le_succ n16,fun c hc=>.inl (x17 c hc)⟩ (fun b hb=>x17 b (g16'.bk b hb).2.1);refine dGm (n0:=n) [.bool b16,.slice a16 l16 c16,.bool d16,.slice e16 f16 g16] [rsQ p M us i] g17 numP.kp (.cons (c:=[.bool b16,.slice a16 l16 c16,.bool d16,.slice e16 f16 g16]) rfl ⟨_,_,_,_,_,_,_,_,rfl,i17,j17⟩ .nil) ⟨rfl,rfl⟩ (yy p17 R2) (Nat.le_refl _) (by rw [hl8];show i+1<_;omega) zo ?_;intro v18 h18 W18 g18 T18 X18 K18 F18;have g18:GR 4 numP (n+1+1) h18 (n16+1+1) 51 v18 ((List.range (i+1)).map (rsQ p M us)):=g18.as (by rw [List.range_succ,List.map_append];rfl);obtain ⟨a18,rfl⟩:=g18.shape (L:=i+1) (by rw [List.length_map,List.length_range]);have q18:=(X18 (3*(n+1)+2) zo).trans ((x17 _ zo).trans q16);have E18:Ex0 n h h18:=⟨fun c hc=>(X18 c zo).trans ((x17 c zo).trans (E16.e c hc))⟩;clear x17 X18 T18 K18;refine zH ?_;refine zG ?_;exact sK (i+1,.slice a18 (i+1) (i+1)) ⟨rfl,zo,E18,q18,g18,by show i+1≤p.eqs.length;omega⟩
 have hie:i=p.eqs.length:=zo;subst hie;have X8:Ext n h h8:=E8.e;have y88:n≤n8:=zo;refine zG ?_;refine zq ?_;obtain ⟨C,g1,g2,_⟩:=g8;exact ⟨av,rfl,C,g1.sl,g2⟩
theorem zlh (k:Nat)(hF:F≤100)(hp:SdpR h n (.slice aB lB cB) (.slice aO lO cO) (.slice aF lF cF) (.slice aE lE cE) p)(hok:SdpOk F least p)(hx:PtR h n (.slice aX lX cX) (.slice aU lU cU) p ds M us)(B:PtB p ds M us):
  VF (cal (k+11)) 62 [.agg #[.slice aB lB cB,.int .i64 (p.free:Int),.slice aO lO cO,.slice aF lF cF,.slice aE lE cE],.agg #[.slice aX lX cX,.slice aU lU cU]] h n fun v=>∃ok:Bool,v=.bool ok∧(ok=true↔zfv p M us):=by
 have heq:=hok.eql;have hbl:=hok.bl;have hds:ds.length=p.blocks.length:=by
  have:=congrArg List.length B.d;unfold dimN at this;rwa [List.length_map,List.length_map] at this
 refine zw (fn:=Tryz.f62) R4 ?_;refine zG ?_;refine sB [.slice aB lB cB,.int .i64 (p.free:Int),.slice aO lO cO,.slice aF lF cF,.slice aE lE cE] ?_;intro h1 p1 x1;refine sB [.slice aX lX cX,.slice aU lU cU] ?_;intro h2 p2 x2;refine zG ?_;have X2:Ex0 n h h2:=⟨(zx:Tx n h (n+1+1) h2).2⟩;have hx2:=hx.ext X2.e (show n≤n+1+1 by omega);have hr:=aH (k+1) hF (hp.ext0 X2.e zo) hok hx2 B;refine sC hr ?_;rintro _ h3 n3 ⟨ar,rfl,ir⟩ y3 x3;obtain ⟨e2,q2⟩:∃e,h3 (3*(n+1)+2)=some (.row [.slice aX lX cX,.slice aU lU cU] e):=⟨_,zp⟩;have hx3:=hx2.ext x3 y3;clear x1 x2 x3 p1 p2 X2;refine zG ?_;refine sF (α:=Nat) (fun z=>[(3,.pointer (some ⟨3*(n+1)+2,0,none⟩)),(9,.slice ar p.eqs.length p.eqs.length),(10,.int .i64 (p.eqs.length:Int)),(11,.int .i64 (z:Int))])
  (fun z h' n' w'=>w'=[]∧n3≤n'∧Ex0 n3 h3 h'∧z≤p.eqs.length∧∀m,m<z→rsQ p M us m=0) (fun z=>p.eqs.length-z) 0 ⟨rfl,Nat.le_refl _,⟨Ext.refl _ _⟩,Nat.zero_le _,fun m hm=>absurd hm (Nat.not_lt_zero _)⟩ ?_
 rintro i t h4 n4 _ ⟨rfl,y4,E4,hi,hall⟩;have hi:i≤p.eqs.length:=hi;have y4:n3≤n4:=y4;have hall:∀m,m<i→rsQ p M us m=0:=hall;refine zG ?_;by_cases qi:(i:Int)<(p.eqs.length:Int)
 ·obtain ⟨b5,o5,b5',a5,l5,c5,d5,e5,f5,g5,e5',m5,r5,t5,i5,j5⟩:=NS.at (ir.ext E4.e y4) (show ((List.range p.eqs.length).map (rsQ p M us))[i]?=some (rsQ p M us i) by rw [List.getElem?_map,List.getElem?_range zo];rfl);refine zG ?_;refine sI e5' r5 ?_;refine sL t5 m5 0 ?_;refine sA ?_;intro h6 p6 x6;refine zG ?_;refine sS [.bool b5',.slice a5 l5 c5,.bool d5,.slice e5 f5 g5] ?_;intro h7 p7 o7;refine zG ?_;refine sC (rT (k+8) (i5.t zt) (j5.t zt)) ?_;rintro _ h8 n8 ⟨s,rfl,hs⟩ y8 x8;have hno:∀q:Rat,q≠0→rsQ p M us i=q→∃ok:Bool,(Value.bool false)=.bool ok∧(ok=true↔zfv p M us):=fun q hq e=>⟨false,rfl,fun h=>(by cases h),fun h=>absurd (e.symm.trans (h.1 i zo)) hq⟩;have hno:(rsQ p M us i).num≠0→∃ok:Bool,(Value.bool false)=.bool ok∧(ok=true↔zfv p M us):=fun q=>hno _ (fun h=>q (by rw [h];rfl)) rfl;rcases hs with ⟨rfl,q⟩|⟨rfl,q⟩|⟨rfl,q⟩
  ·refine zG ?_;refine zf ?_;exact hno zo
  ·have X8:Ext n4 h4 h8:=(zx:Tx n4 h4 n8 h8).2;have E8:Ex0 n3 h3 h8:=⟨fun c hc=>(X8 c zo).trans (E4.e c hc)⟩;clear X8;refine zG ?_;exact sK (i+1) ⟨rfl,zo,E8,by show i+1≤p.eqs.length;omega,fun m hm=>by
    rcases Nat.lt_or_ge m i with h|h
    ·exact hall m h
    ·have:m=i:=by have:m<i+1:=hm;omega
     rw [this];exact Rat.num_eq_zero.1 q⟩
  refine zG ?_;refine zf ?_;exact hno zo
 have hie:i=p.eqs.length:=zo;subst hie;have q4:=(E4.e (3*(n+1)+2) zo).trans q2;refine zG ?_;refine sC (zjq k (hx3.ext E4.e y4).m (B.mok hok) zo).cx ?_;rintro _ h5 n5 ⟨ok,rfl,hk⟩ y5 x5;refine zG ?_;refine zf ?_;refine ⟨ok,rfl,hk.trans ⟨fun h=>⟨hall,fun k' N hN=>?_⟩,fun h k' d hd=>?_⟩⟩
 ·obtain ⟨d,hd,rfl⟩:=B.get hN;exact h k' d hd
 exact h.2 k' d.n (B.dn hd)
end
end
section
section
variable {h:HF}{n:Nat}{p:Sdp}{F least:Nat}{aB aO aF aE:Option Addr}{lB cB lO cO lF cF lE cE:Nat}{aX aU:Option Addr}{lX cX lU cU:Nat}{ds:List MD}{M:Nat→Nat→Nat→Rat}{us:List Rat}
theorem PtB.vz (B:PtB p ds M us)(hok:SdpOk F least p)(hfr:p.free≤100):Sz 17 (vaQ p M us):=by
 have h1:=(zbj B.b (fun e he=>(hok.obj.ok e he).f.d)).up 12;have h2:=zbv hok.ofs (fun u hu=>B.uf hu) p.free;refine FN.sz (D:=12) (h1.add h2) zd zd ?_;have:=hok.objl;omega
theorem PtB.rz (B:PtB p ds M us)(hok:SdpOk F least p)(hfr:p.free≤100){m:Nat}(hm:m<p.eqs.length):Sz 21 (rsQ p M us m):=by
 obtain ⟨x,hd⟩:=hok.eqd (List.getElem?_eq_getElem hm);unfold rsQ;rw [hd.es,hd.fs,hd.rh];rw [Rat.sub_eq_add_neg];exact (B.lz17 hd hfr).add hd.sx.neg
theorem cmpX (k:Nat)(g:GG h n)(hF:F≤100)(hp:SdpR h n (.slice aB lB cB) (.slice aO lO cO) (.slice aF lF cF) (.slice aE lE cE) p)(hok:SdpOk F least p)(hx:PtR h n (.slice aX lX cX) (.slice aU lU cU) p ds M us)(B:PtB p ds M us):
  VF (cal (k+19)) 23 [.agg #[.slice aB lB cB,.int .i64 (p.free:Int),.slice aO lO cO,.slice aF lF cF,.slice aE lE cE],.agg #[.slice aX lX cX,.slice aU lU cU]] h n fun v=>v=.bool true:=by
 have hfr:=hok.free;have heq:=hok.eql;refine zw (fn:=Tryz.f23) R4 ?_;refine zG ?_;refine sB [.slice aB lB cB,.int .i64 (p.free:Int),.slice aO lO cO,.slice aF lF cF,.slice aE lE cE] ?_;intro h1 p1 x1;refine sB [.slice aX lX cX,.slice aU lU cU] ?_;intro h2 p2 x2;refine zG ?_;have E2:Ex0 n h h2:=⟨(zx:Tx n h (n+1+1) h2).2⟩;have y2:n≤n+1+1:=zo;have h58:=bD (k+7) hF (hp.ext0 E2.e y2) hok (hx.ext E2.e y2) B;refine sC h58.cx ?_;rintro _ h3 n3 rfl y3 x3;have E3:Ex0 n h h3:=⟨fun c hc=>(x3 c zo).trans (E2.e c hc)⟩;have y03:n≤n3:=zo;refine zG ?_;have h37:=zj4 (k+3) (g.ext E3.e y03) hF (hp.ext0 E3.e y03) hok (hx.ext E3.e y03) B;refine sC h37.cx ?_;rintro _ h4 n4 rfl y4 x4;have E4:Ex0 n h h4:=⟨fun c hc=>(x4 c zo).trans (E3.e c hc)⟩;have y04:n≤n4:=zo;refine zG ?_;have h59:=zf6 (k+3) (g.ext E4.e y04) hF (hp.ext0 E4.e y04) hok (hx.ext E4.e y04) B;refine sC h59 ?_;rintro _ h5 n5 ⟨bR,rfl,oR⟩ y5 x5;have E5:Ex0 n h h5:=⟨fun c hc=>(x5 c zo).trans (E4.e c hc)⟩;have y05:n≤n5:=zo;refine zG ?_;have h36:=zmp k (g.ext E5.e y05) hF (hp.ext0 E5.e y05) hok (hx.ext E5.e y05) B;refine sC h36.cx ?_;rintro _ h6 n6 ⟨ok,rfl,hfe⟩ y6 x6;have E6:Ex0 n h h6:=⟨fun c hc=>(x6 c zo).trans (E5.e c hc)⟩;have y06:n≤n6:=zo;refine zG ?_;have h60:=mE (k+4) (g.ext E6.e y06) hF (hp.ext0 E6.e y06) hok (hx.ext E6.e y06) B;refine sC h60.cx ?_;rintro _ h7 n7 rfl y7 x7;have E7:Ex0 n h h7:=⟨fun c hc=>(x7 c zo).trans (E6.e c hc)⟩;have y07:n≤n7:=zo;refine zG ?_;have h61:=zg8 (k+9) hF (hp.ext0 E7.e y07) hok (hx.ext E7.e y07) B;refine sC h61 ?_;rintro _ h8 n8 ⟨b8,a8,l8,c8,d8,e8,f8,g8,rfl,i8,j8⟩ y8 x8;refine sC (zf2 (k+14) i8 j8 (B.vz hok zo) zd).cx ?_;rintro _ h9 n9 rfl y9 x9;have E9:Ex0 n h h9:=⟨fun c hc=>(x9 c zo).trans ((x8 c zo).trans (E7.e c hc))⟩;have y09:n≤n9:=zo;refine zG ?_;refine sQ true (beq_self_eq_true _) ?_;refine zG ?_;have h34:=aH (k+9) hF (hp.ext0 E9.e y09) hok (hx.ext E9.e y09) B;refine sC h34 ?_;rintro _ h10 n10 ⟨a10,rfl,i10⟩ y10 x10;have htx:=bK (k+13) i10 zo (m:=21) (fun q hq=>by
  obtain ⟨m,hm,rfl⟩:=List.mem_map.1 hq;exact B.rz hok zo (List.mem_range.1 hm)) zd
 refine sC htx ?_;rintro _ h11 n11 ⟨b11,rfl,f11,o11⟩ y11 x11;rw [List.map_map] at o11;have X511:Ext n5 h5 h11:=fun c hc=>(x11 c zo).trans ((x10 c zo).trans ((x9 c zo).trans ((x8 c zo).trans ((x7 c zo).trans (x6 c hc)))));have hss:=np (k+17) (OT.sl (oR.ext strP.kp X511 (show n5≤n11 by omega)) (len:=p.eqs.length) (cap:=p.eqs.length) (by rw [List.length_map,List.length_range]) (Nat.le_refl _)) (OT.sl o11 (by rw [List.length_map,List.length_range]) (Nat.le_refl _)) (by rw [List.length_map,List.length_range];omega);clear X511;refine sC hss.cx ?_;rintro _ h12 n12 rfl y12 x12;have E12:Ex0 n h h12:=⟨fun c hc=>(x12 c zo).trans ((x11 c zo).trans ((x10 c zo).trans (E9.e c hc)))⟩;have y012:n≤n12:=zo;refine zG ?_;have h62:=zlh (k+7) hF (hp.ext0 E12.e y012) hok (hx.ext E12.e y012) B;refine sC h62.cx ?_;rintro _ h13 n13 ⟨ok2,rfl,hfe2⟩ y13 x13;have hoo:ok2=ok:=by
  cases ok<;>cases ok2
  ·rfl
  ·exact absurd (hfe.2 (hfe2.1 rfl)) (by simp)
  ·exact absurd (hfe2.2 (hfe.1 rfl)) (by simp)
  rfl
 subst hoo;cases ok2
 ·refine zG ?_;refine zf ?_;rfl
 refine zG ?_;refine zf ?_;rfl
end
end
section
variable {K N bt j n':Nat}{W:List Nat}{f:FuncId}{args:List Value}{h':HF}
theorem zao {c:Nat}:∀{W:List Nat},(∀b∈W,b=bt)→c≠bt→memN c W=false:=by
 intro W;induction W with
 |nil=>intro _ _;rfl
 |cons x W ih=>
  intro h hc;unfold memN;have:Nat.beq c x=false:=by
   cases he:Nat.beq c x with
   |false=>rfl
   |true=>exact absurd ((Nat.eq_of_beq_eq_true he).trans (h x (by simp))) hc
  rw [this];exact ih (fun y hy=>h y (by simp [hy])) hc
theorem k7 {m:Nat}(hW:∀b∈W,b=bt):∀{l:List (Nat×Nat)},(∀x∈l,x.2≠bt)→zV m W l=true:=by
 intro l;induction l with
 |nil=>intro _;rfl
 |cons x l ih=>
  intro h;obtain ⟨i,b⟩:=x;unfold zV;rw [zao hW (h (i,b) (by simp)),Bool.not_false,Bool.or_true];exact ih fun y hy=>h y (by simp [hy])
section
variable {X:CtxF}{ops r:List Oper}{ms:List Nat}{i m:Nat}{t:TF}{h:HF}{n:Nat}{w:List Nat}{al ld:List (Nat×Nat)}{ef:List (Nat×HF×List Nat)}{Q:SV→Prop}{o:Oper}{d:Tmp}
theorem ct {T:TapeI}{R:Value→HF→Nat→Prop}(hcall:CF X.C f args h n (fun v h' n' w=>TLeft T h n h' n' w∧R v h' n'))(hl:∀x∈ld,x.2≠T.bt)
  (k:∀v h' n' W,TLeft T h n h' n' W→R v h' n'→ED X ops r ms (i+1) ⟨⟨upd t d v,h',n',addW X.n0 W w⟩,al,ld,(i,h,W)::ef⟩ Q)(hw:zh ops t o=true:=by exact rfl)(hd:o.dst=some d:=by exact rfl)(hn:zm X.nt (some d)=true:=by exact rfl)(hc:cls o.op=3:=by exact rfl)(he:effF X.E o.op (evF t) h n=some (.enter f args):=by exact rfl)(h1:yN m ef=true:=by exact rfl)(h2:xI m al=true:=by exact rfl):ED X ops (o::r) (m::ms) i ⟨⟨t,h,n,w⟩,al,ld,ef⟩ Q:=by
 refine yK _ ⟨hw,hd,hn,hc,he,h1,h2⟩ hcall ?_;rintro v h' n' W ⟨a,b⟩;exact ⟨k7 a.w hl,a.le,k v h' n' W a b⟩
end
theorem mF {P:Rat→Prop}{a:Nat→Nat→Rat}(h:∀i j,P (a i j)){i:Nat}{x:Rat}(hx:P x)(i' j':Nat):P (updT a i j x i' j'):=by
 unfold updT;split
 ·exact hx
 exact h i' j'
theorem zc8 {a:Nat→Nat→Rat}(h:∀i j,a i j=a j i){i:Nat}{x:Rat}(i' j':Nat):updT (updT a i j x) j i (updT a i j x i j) i' j'=updT (updT a i j x) j i (updT a i j x i j) j' i':=by
 unfold updT;rw [if_pos (show i=i∧j=j from ⟨rfl,rfl⟩),h i' j'];by_cases h1:i'=j∧j'=i
 ·by_cases h2:j'=j∧i'=i
  ·rw [if_pos h1,if_pos h2]
  rw [if_pos h1,if_neg h2,if_pos (show j'=i∧i'=j from ⟨h1.2,h1.1⟩)]
 by_cases h2:j'=j∧i'=i
 ·rw [if_neg h1,if_pos h2,if_pos (show i'=i∧j'=j from ⟨h2.2,h2.1⟩)]
 rw [if_neg h1,if_neg h2,if_neg (fun h=>h2 ⟨h.2,h.1⟩),if_neg (fun h=>h1 ⟨h.2,h.1⟩)]
section
variable {h:HF}{n:Nat}{T:TapeI}
theorem TLeft.tr {w:List Nat}(l:TLeft T h n h' n' w)(ht:Tp h T):Tr n h n' h':=⟨l.le,fun c hc=>by
 by_cases hb:c=T.bt
 ·subst hb;obtain ⟨pos,e,hrow,_⟩:=ht.row;exact .inr (.row hrow rfl)
 ·exact .inl (l.ext c hc hb)⟩
theorem zf0 (k:Nat)(hK:K<1000000)(ht:Tp h T)(hn:T.m≤n):CF (cal (k+4)) 41 [.pointer (some ⟨T.bt,0,none⟩),.int .i64 (K:Int)] h n fun v h' n' w=>TLeft T h n h' n' w∧∃q,FN 1 K q∧NQ q v h' n':=by
 refine yh (ph k (K:=(K:Int)) zo ht hn) ?_;rintro v h' n' w ⟨h1,h2,h3,h4,n1,n2,ln,x,rfl,r,hx1,hx2,_⟩;exact ⟨⟨h1,h2,h3,h4⟩,_,FN.int x zo,r.nq⟩
theorem zka (k:Nat)(hN:1≤N∧N≤3)(hK:K<1000000)(ht:Tp h T)(hn:T.m≤n):CF (cal (k+5)) 63 [.pointer (some ⟨T.bt,0,none⟩),.int .i64 (N:Int),.int .i64 (K:Int)] h n fun v h' n' w=>TLeft T h n h' n' w∧∃tb rb a,v=slN N tb∧RM h' n' tb N rb a∧(∀i j,a i j=a j i)∧∀i j,FN 1 K (a i j):=by
 have hbt:=ht.bt;refine zk (fn:=Tryz.f63) R4 ?_;refine zG ?_;refine sC (zg4 _ _ _ (N:=N) zo) ?_;rintro _ h1 n1 ⟨tb,rb,rfl,m1,f1⟩ y1 x1;refine zG ?_;have htb:3*n≤tb:=f1 _ (.inl rfl);have ht1:=ht.ext x1 hn;refine sF (α:=Nat×(Nat→Nat→Rat)) (fun z=>[(0,.pointer (some ⟨T.bt,0,none⟩)),(2,.int .i64 (K:Int)),(7,slN N tb),(14,.int .i64 (N:Int)),(15,.int .i64 (z.1:Int))])
  (fun z h' n' w'=>TLeft T h n h' n' w'∧RM h' n' tb N rb z.2∧(∀i j,z.2 i j=z.2 j i)∧(∀i j,FN 1 K (z.2 i j))∧z.1≤N) (fun z=>N-z.1) (0,fun _ _=>0) ⟨⟨fun b hb=>absurd hb List.not_mem_nil,y1,ht1,x1.t⟩,m1,fun _ _=>rfl,fun _ _=>FN.zero _ _,Nat.zero_le _⟩ ?_
 rintro ⟨i,a⟩ t h2 n2 w2 ⟨⟨hw2,y2,ht2,hx2⟩,m2,s2,b2,hi⟩;have y2:n≤n2:=y2;have m2:RM h2 n2 tb N rb a:=m2;have s2:∀i j,a i j=a j i:=s2;have b2:∀i j,FN 1 K (a i j):=b2;have hi:i≤N:=hi;clear m1 ht1;refine zG ?_;by_cases qi:(i:Int)<(N:Int)
 ·have hiN:i<N:=zo;refine zG ?_;refine sF (α:=Nat×(Nat→Nat→Rat)) (fun z=>[(0,.pointer (some ⟨T.bt,0,none⟩)),(2,.int .i64 (K:Int)),(7,slN N tb),(8,.int .i64 (i:Int)),(9,.int .i64 (z.1:Int)),(14,.int .i64 (N:Int)),(15,.int .i64 (i:Int))])
   (fun z h' n' w'=>TLeft T h n h' n' w'∧RM h' n' tb N rb z.2∧(∀i j,z.2 i j=z.2 j i)∧(∀i j,FN 1 K (z.2 i j))∧z.1≤i+1) (fun z=>i+1-z.1) (0,a) ⟨⟨hw2,y2,ht2,hx2⟩,m2,s2,b2,Nat.zero_le _⟩ ?_
  clear m2 s2 b2 hx2 ht2 hw2 y2;rintro ⟨j,a⟩ t h2 n2 w2 ⟨⟨hw2,y2,ht2,hx2⟩,m2,s2,b2,hj⟩;have y2:n≤n2:=y2;have m2:RM h2 n2 tb N rb a:=m2;have s2:∀i j,a i j=a j i:=s2;have b2:∀i j,FN 1 K (a i j):=b2;have hj:j≤i+1:=hj;refine zG ?_;by_cases qj:(j:Int)≤(i:Int)
  ·have hjN:j<N:=zo;obtain ⟨bi,hbi,hbin,hbim⟩:=m2.get hiN;obtain ⟨bj,hbj,hbjn,hbjm⟩:=m2.get hjN;have hbi3:=f1 bi (.inr hbim);have hbj3:=f1 bj (.inr hbjm);refine zG ?_;refine zl [0,0,3,7,0,0,0,96,255,511] rfl ?_;refine zH ?_;refine dI (j:=i) (len:=N) rfl hiN ?_;refine dL (m2.row hbi) m2.t.1 0 ?_;refine zH ?_;have hwh:=zf0 k hK ht2 (show T.m≤n2 by omega);refine ct hwh (fun x hx=>by rw [List.mem_singleton.1 hx];show tb≠T.bt;omega) ?_;rintro _ h3 n3 W3 l3 ⟨q,bq,b3,a3,l3',c3,d3,e3,f3,g3,rfl,i3,j3⟩;have T3:=l3.tr ht2;obtain ⟨hw3,y3,ht3,hx3⟩:=l3;have o3:=(m2.r i bi hbi).go numP.kp T3 (hx3 bi hbin zo);refine dI (j:=j) (len:=N) rfl hjN ?_;refine dZn (n0:=n) (j:=j) (q:=q) [.bool b3,.slice a3 l3' c3,.bool d3,.slice e3 f3 g3] o3 numP.kp (by rw [xP];exact hjN) (show (0:Nat)+j*4=j*4 by omega) ⟨_,_,_,_,_,_,_,_,rfl,i3,j3⟩ hbi3 ?_;intro h4 o4 s4;have m4:RM h4 n3 tb N rb (updT a i j q):=m2.put hbi hjN (Tr.s s4 T3) (fun c hc hm=>(s4.1 c hc).trans (hx3 c (by rcases hm with rfl|hm;exact m2.t.1;exact m2.blt hm) (by have:=f1 c hm;omega))) o4;have X4:∀c,c<3*n→c≠T.bt→h4 c=h c:=fun c hc hb=>(s4.1 c zo).trans ((hx3 c zo hb).trans (hx2 c hc hb));have ht4:Tp h4 T:=ht3.ext (n:=T.m) (fun c hc=>s4.1 c zo) (Nat.le_refl _);clear s4 hx3 T3;obtain ⟨b5,a5,l5,c5,d5,e5,f5,g5,r5,i5,j5⟩:=m4.el hbi hjN;refine zG ?_;refine zl [0,0,3,7,0,0,0,96,224,0,992,2016,4095,8191] rfl ?_;refine zH ?_;refine dI (j:=j) (len:=N) rfl hjN ?_;refine dL (m4.row hbj) m4.t.1 0 ?_;refine zH ?_;refine dI (j:=i) (len:=N) rfl hiN ?_;refine dL (m4.row hbi) m4.t.1 0 ?_;refine zH ?_;refine dI (j:=j) (len:=N) rfl hjN ?_;refine dL r5 (show bi<3*n3 by omega) 0 ?_;refine dI (j:=i) (len:=N) rfl hiN ?_;refine dZn (n0:=n) (j:=i) (q:=updT a i j q i j) [.bool b5,.slice a5 l5 c5,.bool d5,.slice e5 f5 g5] (m4.r j bj hbj) numP.kp (by rw [xP];exact hiN) (show (0:Nat)+i*4=i*4 by omega) ⟨_,_,_,_,_,_,_,_,rfl,i5,j5⟩ hbj3 ?_;intro h6 o6 s6;have m6:RM h6 n3 tb N rb (updT (updT a i j q) j i (updT a i j q i j)):=m4.put hbj hiN (Tr.s s6 (Tr.refl _ _)) (fun c hc _=>s6.1 c hc) o6;have X6:ExtT n T.bt h h6:=fun c hc hb=>(s6.1 c zo).trans (X4 c hc hb);have ht6:Tp h6 T:=ht4.ext (n:=T.m) (fun c hc=>s6.1 c zo) (Nat.le_refl _);clear s6 X4;refine zG ?_;refine sK (j+1,updT (updT a i j q) j i (updT a i j q i j)) ⟨⟨z9 hw3 hw2,zo,ht6,X6⟩,m6,?_,?_,by show j+1≤i+1;omega⟩
   ·exact zc8 s2
   intro i' j';have hq:updT a i j q i j=q:=if_pos ⟨rfl,rfl⟩;rw [hq];exact mF (P:=FN 1 K) (mF b2 bq) bq i' j'
  refine zG ?_;refine sK (i+1,a) ⟨⟨hw2,y2,ht2,hx2⟩,m2,s2,b2,by show i+1≤N;omega⟩
 refine zG ?_;refine retH [slN N tb] ⟨rfl,(zi rfl),rfl⟩ ⟨⟨hw2,y2,ht2,hx2⟩,tb,rb,a,rfl,m2,s2,b2⟩
end
end
section
variable {B K N cap i j k:Nat}{ar:Option Addr}
noncomputable def trV (a:Nat→Nat→Rat)(i j:Nat):Nat→Nat→Rat:=fun r c=>if c<i∨c=i∧r<j then a c r else 0
theorem zc9 (a:Nat→Nat→Rat)(i j:Nat):updT (trV a i j) j i (a i j)=trV a i (j+1):=by
 funext r c;unfold updT trV;by_cases h:r=j∧c=i
 ·obtain ⟨rfl,rfl⟩:=h;rw [if_pos ⟨rfl,rfl⟩,if_pos (.inr ⟨rfl,zo⟩)]
 rw [if_neg h];by_cases h2:c<i∨c=i∧r<j
 ·rw [if_pos h2,if_pos zo]
 rw [if_neg h2,if_neg zo]
theorem zha (a:Nat→Nat→Rat){r c:Nat}(hr:r<K):trV a i K r c=trV a (i+1) 0 r c:=by
 unfold trV;by_cases h2:c<i∨c=i∧r<K
 ·rw [if_pos h2,if_pos zo]
 rw [if_neg h2,if_neg zo]
noncomputable def prS (a b:Nat→Nat→Rat)(r c:Nat):Nat→Rat
 |0=>0
 |k+1=>prS a b r c k+a r k*b k c
noncomputable def tmV (a b:Nat→Nat→Rat)(K i k j:Nat):Nat→Nat→Rat:=fun r c=>if r<i then prS a b r c K else if r=i then prS a b r c (if c<j then k+1 else k) else 0
theorem zdc (a b:Nat→Nat→Rat)(K i k j:Nat):updT (tmV a b K i k j) i j (prS a b i j k+a i k*b k j)=tmV a b K i k (j+1):=by
 funext r c;unfold updT tmV;by_cases h:r=i∧c=j
 ·obtain ⟨rfl,rfl⟩:=h;rw [if_pos ⟨rfl,rfl⟩,if_neg (Nat.lt_irrefl r),if_pos rfl,if_pos zo];rfl
 rw [if_neg h];by_cases h1:r<i
 ·rw [if_pos h1,if_pos h1]
 rw [if_neg h1,if_neg h1];by_cases h2:r=i
 ·rw [if_pos h2,if_pos h2];congr 1;by_cases h3:c<j
  ·rw [if_pos h3,if_pos zo]
  rw [if_neg h3,if_neg zo]
 rw [if_neg h2,if_neg h2]
theorem zj6 (a b:Nat→Nat→Rat)(K i k j:Nat):tmV a b K i k j i j=prS a b i j k:=by
 unfold tmV;rw [if_neg (Nat.lt_irrefl i),if_pos rfl,if_neg (Nat.lt_irrefl j)]
theorem zhb (a b:Nat→Nat→Rat){r c:Nat}(hc:c<N):tmV a b K i k N r c=tmV a b K i (k+1) 0 r c:=by
 unfold tmV;rw [if_pos hc,if_neg (show ¬c<0 by omega)]
theorem zdb {a b:Nat→Nat→Rat}(h0:a i k=0)(r c:Nat):tmV a b K i k j r c=tmV a b K i (k+1) 0 r c:=by
 unfold tmV;by_cases h1:r<i
 ·rw [if_pos h1,if_pos h1]
 rw [if_neg h1,if_neg h1];by_cases h2:r=i
 ·subst h2;rw [if_pos rfl,if_pos rfl,if_neg (show ¬c<0 by omega)];split
  ·rfl
  show _=prS a b r c k+a r k*b k c;rw [h0,Rat.zero_mul,Rat.add_zero]
 rw [if_neg h2,if_neg h2]
theorem zdd (a b:Nat→Nat→Rat)(K i:Nat)(r c:Nat):tmV a b K i K 0 r c=tmV a b K (i+1) 0 0 r c:=by
 unfold tmV;by_cases h1:r<i
 ·rw [if_pos h1,if_pos zo]
 rw [if_neg h1];by_cases h2:r=i
 ·rw [if_pos h2,if_neg (show ¬c<0 by omega),if_pos (show r<i+1 by omega)]
 rw [if_neg h2,if_neg zo];by_cases h3:r=i+1
 ·rw [if_pos h3,if_neg (show ¬c<0 by omega)];rfl
 rw [if_neg h3]
theorem zgc {a b:Nat→Nat→Rat}(ha:∀i j,FN 1 B (a i j))(hb:∀i j,FN 1 B (b i j))(r c k:Nat):FN 1 (B*B*k) (prS a b r c k):=by
 induction k with
 |zero=>exact FN.zero _ _
 |succ k ih=>exact (ih.add ((ha r k).mul (hb k c))).mono (by rw [Nat.mul_succ];omega)
section
variable {h:HF}{n:Nat}
theorem zl6 (k:Nat){a:Nat→Nat→Rat}(r:RDK h n (.slice ar N cap) N K a)(hN:1≤N∧N≤3)(hK:1≤K∧K≤3):CX (cal (k+2)) 67 [.slice ar N cap] h n fun v h' n'=>∃tb rb,v=slN K tb∧RMK h' n' tb K N rb (fun i j=>a j i)∧(∀b,b=tb∨b∈rb→3*n≤b):=by
 refine zk (fn:=Tryz.f67) R4 ?_;obtain ⟨b0,o0,a0,c0,e0,m0,r0,t0,s0⟩:=r.at (show 0<N by omega);refine zG ?_;refine sI (j:=0) e0 r0 ?_;refine sL t0 m0 0 ?_;refine zG ?_;refine sC (kl _ _ _ (N:=K) (K:=N) zo zo) ?_;rintro _ h1 n1 ⟨tb,rb,rfl,m1,f1⟩ y1 x1;have htb:3*n≤tb:=f1 _ (.inl rfl);refine zG ?_;refine sF (α:=Nat) (fun z=>[(0,.slice ar N cap),(3,slN K tb),(4,.int .i64 (z:Int))])
  (fun z h' n' w'=>w'=[]∧n≤n'∧Ex0 n h h'∧RMK h' n' tb K N rb (trV a z 0)∧z≤N) (fun z=>N-z) 0 ⟨rfl,y1,⟨x1⟩,m1.as (fun i j _ _=>(if_neg zo).symm),Nat.zero_le _⟩ ?_
 rintro i t h2 n2 _ ⟨rfl,y2,E2,m2,hi⟩;have y2:n≤n2:=y2;have m2:RMK h2 n2 tb K N rb (trV a i 0):=m2;have hi:i≤N:=hi;clear m1 x1;refine zG ?_;by_cases qi:(i:Int)<(N:Int)
 ·have hiN:i<N:=zo;refine zG ?_;refine sF (α:=Nat) (fun z=>[(0,.slice ar N cap),(3,slN K tb),(4,.int .i64 (i:Int)),(5,.int .i64 (z:Int))])
   (fun z h' n' w'=>w'=[]∧n≤n'∧Ex0 n h h'∧RMK h' n' tb K N rb (trV a i z)∧z≤K) (fun z=>K-z) 0 ⟨rfl,y2,E2,m2,Nat.zero_le _⟩ ?_
  clear m2 E2 y2;rintro j t h2 n2 _ ⟨rfl,y2,E2,m2,hj⟩;have y2:n≤n2:=y2;have m2:RMK h2 n2 tb K N rb (trV a i j):=m2;have hj:j≤K:=hj;obtain ⟨bi,oi,ai,ci,ei,mi,ri,ti,si⟩:=(r.ext E2.e y2).at hiN;refine zG ?_;refine sI (j:=i) ei ri ?_;refine sL ti mi 0 ?_;refine zG ?_;by_cases qj:(j:Int)<(K:Int)
  ·have hjK:j<K:=zo;obtain ⟨bj,hbj,hbjn,hbjm⟩:=m2.get hjK;have hbj3:=f1 bj (.inr hbjm);obtain ⟨k5,u5,b5,a5,l5,c5,d5,e5,f5,w5,e5',m5,r5,t5,i5,j5⟩:=NS.at si (rg hjK);refine zG ?_;refine zl [0,0,3,7,0,0,0,96,224,0,992,2016,4095,8191] rfl ?_;refine zH ?_;refine dI (j:=j) (len:=K) rfl hjK ?_;refine dL (m2.row hbj) m2.t.1 0 ?_;refine zH ?_;refine dI (j:=i) ei ri ?_;refine dL ti mi 0 ?_;refine zH ?_;refine dI (j:=j) e5' r5 ?_;refine dL t5 m5 0 ?_;refine dI (j:=i) (len:=N) rfl hiN ?_;refine dZn (n0:=n) (j:=i) (q:=a i j) [.bool b5,.slice a5 l5 c5,.bool d5,.slice e5 f5 w5] (m2.r j bj hbj) numP.kp (by rw [xP];exact hiN) (show (0:Nat)+i*4=i*4 by omega) ⟨_,_,_,_,_,_,_,_,rfl,i5,j5⟩ hbj3 ?_;intro h6 o6 s6;have m6:=m2.put hbj hiN (Tr.s s6 (Tr.refl _ _)) (fun c hc _=>s6.1 c hc) o6;rw [zc9] at m6;have E6:Ex0 n h h6:=⟨fun c hc=>(s6.1 c zo).trans (E2.e c hc)⟩;clear s6;refine zG ?_;exact sK (j+1) ⟨rfl,y2,E6,m6,by show j+1≤K;omega⟩
  have hjK:j=K:=zo;subst hjK;refine zG ?_;exact sK (i+1) ⟨rfl,y2,E2,m2.as (fun r c hr _=>zha a hr),by show i+1≤N;omega⟩
 have hiN:i=N:=zo;subst hiN;have X2:Ext n h h2:=E2.e;refine zG ?_;refine zq ?_;exact ⟨tb,rb,rfl,m2.as (fun r c hr hc=>if_pos (.inl hc)),f1⟩
theorem zj7 (k:Nat){aa ab:Option Addr}{ca cb:Nat}{a b:Nat→Nat→Rat}(ra:RDK h n (.slice aa N ca) N K a)(rb':RDK h n (.slice ab K cb) K N b)(hN:1≤N∧N≤3)(hK:1≤K∧K≤3)(ha:∀i j,FN 1 2 (a i j))(hb:∀i j,FN 1 2 (b i j)):CX (cal (k+7)) 66 [.slice aa N ca,.slice ab K cb] h n fun v h' n'=>∃tb rb,v=slN N tb∧RM h' n' tb N rb (fun i j=>prS a b i j K)∧(∀b,b=tb∨b∈rb→3*n≤b):=by
 refine zk (fn:=Tryz.f66) R4 ?_;obtain ⟨b0,o0,a0,c0,e0,m0,r0,t0,s0⟩:=rb'.at (show 0<K by omega);refine zG ?_;refine sI (j:=0) e0 r0 ?_;refine sL t0 m0 0 ?_;refine zG ?_;refine sC (kl _ _ _ (N:=N) (K:=N) zo zo) ?_;rintro _ h1 n1 ⟨tb,rb,rfl,m1,f1⟩ y1 x1;have htb:3*n≤tb:=f1 _ (.inl rfl);refine zG ?_;refine sF (α:=Nat) (fun z=>[(0,.slice aa N ca),(1,.slice ab K cb),(5,slN N tb),(6,.int .i64 (z:Int))])
  (fun z h' n' w'=>w'=[]∧n≤n'∧Ex0 n h h'∧RM h' n' tb N rb (tmV a b K z 0 0)∧z≤N) (fun z=>N-z) 0 ⟨rfl,y1,⟨x1⟩,m1.as (fun i j _ _=>by
   unfold tmV;rw [if_neg zo,if_neg (show ¬j<0 by omega)];split<;>rfl),Nat.zero_le _⟩ ?_
 rintro i t h2 n2 _ ⟨rfl,y2,E2,m2,hi⟩;have y2:n≤n2:=y2;have m2:RM h2 n2 tb N rb (tmV a b K i 0 0):=m2;have hi:i≤N:=hi;clear m1 x1;refine zG ?_;by_cases qi:(i:Int)<(N:Int)
 ·have hiN:i<N:=zo;refine zG ?_;refine sF (α:=Nat) (fun z=>[(0,.slice aa N ca),(1,.slice ab K cb),(5,slN N tb),(6,.int .i64 (i:Int)),(7,.int .i64 (z:Int))])
   (fun z h' n' w'=>w'=[]∧n≤n'∧Ex0 n h h'∧RM h' n' tb N rb (tmV a b K i z 0)∧z≤K) (fun z=>K-z) 0 ⟨rfl,y2,E2,m2,Nat.zero_le _⟩ ?_
  clear m2 E2 y2;rintro p t h2 n2 _ ⟨rfl,y2,E2,m2,hp⟩;have y2:n≤n2:=y2;have m2:RM h2 n2 tb N rb (tmV a b K i p 0):=m2;have hp:p≤K:=hp;refine zG ?_;by_cases qp:(p:Int)<(K:Int)
  ·have hpK:p<K:=zo;refine zG ?_;refine sF (α:=Nat) (fun z=>[(0,.slice aa N ca),(1,.slice ab K cb),(5,slN N tb),(6,.int .i64 (i:Int)),(7,.int .i64 (p:Int)),(8,.int .i64 (z:Int))])
    (fun z h' n' w'=>w'=[]∧n≤n'∧Ex0 n h h'∧RM h' n' tb N rb (tmV a b K i p z)∧z≤N) (fun z=>N-z) 0 ⟨rfl,y2,E2,m2,Nat.zero_le _⟩ ?_
   clear m2 E2 y2;rintro j t h2 n2 _ ⟨rfl,y2,E2,m2,hj⟩;have y2:n≤n2:=y2;have m2:RM h2 n2 tb N rb (tmV a b K i p j):=m2;have hj:j≤N:=hj;obtain ⟨b0,o0,a0,c0,e0,m0,r0,t0,s0⟩:=(rb'.ext E2.e y2).at (show 0<K by omega);refine zG ?_;refine sI (j:=0) e0 r0 ?_;refine sL t0 m0 0 ?_;refine zG ?_;by_cases qj:(j:Int)<(N:Int)
   ·have hjN:j<N:=zo;obtain ⟨bi,oi,ai,ci,ei,mi,ri,ti,si⟩:=(ra.ext E2.e y2).at hiN;obtain ⟨k5,u5,b5,a5,l5,c5,d5,e5,f5,w5,e5',m5,r5,t5,i5,j5⟩:=NS.at si (rg hpK);refine zG ?_;refine sI (j:=i) ei ri ?_;refine sL ti mi 0 ?_;refine zG ?_;refine sI (j:=p) e5' r5 ?_;refine sL t5 m5 0 ?_;refine sC (rT (k+4) i5 j5) ?_;rintro _ h3 n3 ⟨sg,rfl,hsg⟩ y3 x3;have E3:Ex0 n h h3:=⟨fun c hc=>(x3 c zo).trans (E2.e c hc)⟩;have y03:n≤n3:=zo;have m3:=m2.ext x3 y3;clear x3 m2 E2 t0 ti t5 i5 j5 s0 si mi m5 m0;have hsg:sg=0∧a i p=0∨sg≠0:=by
     rcases hsg with ⟨rfl,_⟩|⟨rfl,q⟩|⟨rfl,_⟩
     ·exact .inr zd
     ·exact .inl ⟨rfl,Rat.num_eq_zero.1 q⟩
     exact .inr zd
    rcases hsg with ⟨rfl,hz⟩|hs
    ·refine zG ?_;exact sK (p+1) ⟨rfl,y03,E3,m3.as (fun r c _ _=>zdb hz r c),by show p+1≤K;omega⟩
    obtain ⟨bo,hbo,hbon,hbom⟩:=m3.get hiN;have hbo3:=f1 bo (.inr hbom);obtain ⟨bi,oi,ai,ci,ei,mi,ri,ti,si⟩:=(ra.ext E3.e y03).at hiN;obtain ⟨k5,u5,b5,a5,l5,c5,d5,e5,f5,w5,e5',m5,r5,t5,i5,j5⟩:=NS.at si (rg hpK);obtain ⟨bj,oj,aj,cj,ej,mj,rj,tj,sj⟩:=(rb'.ext E3.e y03).at hpK;obtain ⟨k6,u6,b6,a6,l6,c6,d6,e6,f6,w6,e6',m6,r6,t6,i6,j6⟩:=NS.at sj (rg hjN);obtain ⟨b7,a7,l7,c7,d7,e7,f7,w7,t7,i7,j7⟩:=m3.el hbo hjN;rw [zj6] at i7 j7;refine zG ?_;refine zl [0,0,3,7,0,0,0,96,224,0,992,2016,0,0,12288,28672,0,126976,258048,0,0,1572864,3670016,0,16252928,33030144,67104768,134217696,268435455,536870911] rfl ?_;refine zH ?_;refine dI (j:=i) (len:=N) rfl hiN ?_;refine dL (m3.row hbo) m3.t.1 0 ?_;refine zH ?_;refine dI (j:=i) (len:=N) rfl hiN ?_;refine dL (m3.row hbo) m3.t.1 0 ?_;refine zH ?_;refine dI (j:=j) (len:=N) rfl hjN ?_;refine dL t7 hbon 0 ?_;refine zH ?_;refine dI (j:=i) ei ri ?_;refine dL ti mi 0 ?_;refine zH ?_;refine dI (j:=p) e5' r5 ?_;refine dL t5 m5 0 ?_;refine zH ?_;refine dI (j:=p) ej rj ?_;refine dL tj mj 0 ?_;refine zH ?_;refine dI (j:=j) e6' r6 ?_;refine dL t6 m6 0 ?_;have z5:Sz 2 (a i p):=FN.sz (ha i p) zd zd zd;have z6:Sz 2 (b p j):=FN.sz (hb p j) zd zd zd;have z7:Sz 4 (prS a b i j p):=FN.sz (zgc ha hb i j p) zd zd zo;have hmul:=zdz k i5 j5 i6 j6 z5 z6 zo;refine dC hmul ?_;rintro _ h8 n8 ⟨b8,a8,l8,c8,d8,e8,f8,w8,rfl,i8,j8⟩ y8 x8;have hadd:=dp k (i7.x ⟨y8,x8⟩) (j7.x ⟨y8,x8⟩) i8 j8 z7 (z5.mul z6) zo;refine dC hadd ?_;rintro _ h9 n9 ⟨b9,a9,l9,c9,d9,e9,f9,w9,rfl,i9,j9⟩ y9 x9;have X9:Ext n3 h3 h9:=fun c hc=>(x9 c zo).trans (x8 c hc);have m9:=m3.ext X9 (show n3≤n9 by omega);have E9:Ex0 n h h9:=⟨fun c hc=>(X9 c zo).trans (E3.e c hc)⟩;clear x8 x9 X9;refine dI (j:=j) (len:=N) rfl hjN ?_;refine dZn (n0:=n) (j:=j) (q:=prS a b i j p+a i p*b p j) [.bool b9,.slice a9 l9 c9,.bool d9,.slice e9 f9 w9] (m9.r i bo hbo) numP.kp (by rw [xP];exact hjN) (show (0:Nat)+j*4=j*4 by omega) ⟨_,_,_,_,_,_,_,_,rfl,i9,j9⟩ hbo3 ?_;intro h10 o10 s10;have m10:=m9.put hbo hjN (Tr.s s10 (Tr.refl _ _)) (fun c hc _=>s10.1 c hc) o10;rw [zdc] at m10;have E10:Ex0 n h h10:=⟨fun c hc=>(s10.1 c zo).trans (E9.e c hc)⟩;clear s10;refine zG ?_;exact sK (j+1) ⟨rfl,zo,E10,m10,by show j+1≤N;omega⟩
   have hjN:j=N:=zo;subst hjN;refine zG ?_;exact sK (p+1) ⟨rfl,y2,E2,m2.as (fun r c _ hc=>zhb a b hc),by show p+1≤K;omega⟩
  have hpK:p=K:=zo;subst hpK;refine zG ?_;exact sK (i+1) ⟨rfl,y2,E2,m2.as (fun r c _ _=>zdd a b p i r c),by show i+1≤N;omega⟩
 have hiN:i=N:=zo;subst hiN;have X2:Ext n h h2:=E2.e;refine zG ?_;refine zq ?_;exact ⟨tb,rb,rfl,m2.as (fun r c hr _=>if_pos hr),f1⟩
end
end
section
variable {K N P cap:Nat}{ar:Option Addr}
theorem zh0 (a:Nat→Nat→Rat)(r c k:Nat):prS a (fun i j=>a j i) r c k=prS a (fun i j=>a j i) c r k:=by
 induction k with
 |zero=>rfl
 |succ k ih=>
  show prS a _ r c k+a r k*a c k=prS a _ c r k+a c k*a r k;rw [ih,Rat.mul_comm (a r k)]
section
variable {h:HF}{n:Nat}{T:TapeI}
theorem zln (k:Nat)(hN:1≤N∧N≤3)(hK:1≤K∧K≤2)(ht:Tp h T)(hn:T.m≤n):CF (cal (k+8)) 26 [.pointer (some ⟨T.bt,0,none⟩),.int .i64 (N:Int),.int .i64 (K:Int)] h n fun v h' n' w=>TLeft T h n h' n' w∧∃tb rb a,v=slN N tb∧RM h' n' tb N rb a∧(∀i j,a i j=a j i)∧∀i j,FN 1 8 (a i j):=by
 have hbt:=ht.bt;refine zk (fn:=Tryz.f26) R4 ?_;refine zG ?_;refine sC (kl _ _ _ (N:=N) (K:=K) zo zo) ?_;rintro _ h1 n1 ⟨tb,rb,rfl,m1,f1⟩ y1 x1;refine zG ?_;have htb:3*n≤tb:=f1 _ (.inl rfl);have ht1:=ht.ext x1 hn;refine sF (α:=Nat×(Nat→Nat→Rat)) (fun z=>[(0,.pointer (some ⟨T.bt,0,none⟩)),(7,slN N tb),(14,.int .i64 (N:Int)),(15,.int .i64 (z.1:Int))])
  (fun z h' n' w'=>TLeft T h n h' n' w'∧RMK h' n' tb N K rb z.2∧(∀i j,FN 1 2 (z.2 i j))∧z.1≤N) (fun z=>N-z.1) (0,fun _ _=>0) ⟨⟨fun b hb=>absurd hb List.not_mem_nil,y1,ht1,x1.t⟩,m1,fun _ _=>FN.zero _ _,Nat.zero_le _⟩ ?_
 rintro ⟨i,a⟩ t h2 n2 w2 ⟨⟨hw2,y2,ht2,hx2⟩,m2,b2,hi⟩;have y2:n≤n2:=y2;have m2:RMK h2 n2 tb N K rb a:=m2;have b2:∀i j,FN 1 2 (a i j):=b2;have hi:i≤N:=hi;clear m1 ht1;refine zG ?_;by_cases qi:(i:Int)<(N:Int)
 ·have hiN:i<N:=zo;obtain ⟨bi,hbi,hbin,hbim⟩:=m2.get hiN;have hbi3:=f1 bi (.inr hbim);refine zG ?_;refine sI (j:=i) (len:=N) rfl hiN ?_;refine sL (m2.row hbi) m2.t.1 0 ?_;refine zG ?_;refine sF (α:=Nat×(Nat→Nat→Rat)) (fun z=>[(0,.pointer (some ⟨T.bt,0,none⟩)),(7,slN N tb),(8,.int .i64 (i:Int)),(14,.int .i64 (N:Int)),(15,.int .i64 (i:Int)),(22,.int .i64 (K:Int)),(23,.int .i64 (z.1:Int))])
   (fun z h' n' w'=>TLeft T h n h' n' w'∧RMK h' n' tb N K rb z.2∧(∀i j,FN 1 2 (z.2 i j))∧z.1≤K) (fun z=>K-z.1) (0,a) ⟨⟨hw2,y2,ht2,hx2⟩,m2,b2,Nat.zero_le _⟩ ?_
  clear m2 b2 hx2 ht2 hw2 y2 hbin;rintro ⟨j,a⟩ t h2 n2 w2 ⟨⟨hw2,y2,ht2,hx2⟩,m2,b2,hj⟩;have y2:n≤n2:=y2;have m2:RMK h2 n2 tb N K rb a:=m2;have b2:∀i j,FN 1 2 (a i j):=b2;have hj:j≤K:=hj;refine zG ?_;by_cases qj:(j:Int)<(K:Int)
  ·have hjK:j<K:=zo;have hbin:=m2.blt hbim;refine zG ?_;refine zl [0,0,3,7,0,0,32,127,255] rfl ?_;refine zH ?_;refine dI (j:=i) (len:=N) rfl hiN ?_;refine dL (m2.row hbi) m2.t.1 0 ?_;refine zH ?_;have hwh:=zf0 (k+3) (K:=2) zo ht2 (show T.m≤n2 by omega);refine ct hwh (fun x hx=>by rw [List.mem_singleton.1 hx];show tb≠T.bt;omega) ?_;rintro _ h3 n3 W3 l3 ⟨q,bq,b3,a3,l3',c3,d3,e3,f3,g3,rfl,i3,j3⟩;have T3:=l3.tr ht2;obtain ⟨hw3,y3,ht3,hx3⟩:=l3;have o3:=(m2.r i bi hbi).go numP.kp T3 (hx3 bi hbin zo);refine dI (j:=j) (len:=K) rfl hjK ?_;refine dZn (n0:=n) (j:=j) (q:=q) [.bool b3,.slice a3 l3' c3,.bool d3,.slice e3 f3 g3] o3 numP.kp (by rw [xP];exact hjK) (show (0:Nat)+j*4=j*4 by omega) ⟨_,_,_,_,_,_,_,_,rfl,i3,j3⟩ hbi3 ?_;intro h4 o4 s4;have m4:RMK h4 n3 tb N K rb (updT a i j q):=m2.put hbi hjK (Tr.s s4 T3) (fun c hc hm=>(s4.1 c hc).trans (hx3 c (by rcases hm with rfl|hm;exact m2.t.1;exact m2.blt hm) (by have:=f1 c hm;omega))) o4;have X4:ExtT n T.bt h h4:=fun c hc hb=>(s4.1 c zo).trans ((hx3 c zo hb).trans (hx2 c hc hb));have ht4:Tp h4 T:=ht3.ext (n:=T.m) (fun c hc=>s4.1 c zo) (Nat.le_refl _);clear s4 hx3 T3;refine zG ?_;exact sK (j+1,updT a i j q) ⟨⟨z9 hw3 hw2,zo,ht4,X4⟩,m4,mF b2 bq,by show j+1≤K;omega⟩
  refine zG ?_;exact sK (i+1,a) ⟨⟨hw2,y2,ht2,hx2⟩,m2,b2,by show i+1≤N;omega⟩
 refine zG ?_;have htu:=zl6 (k+5) m2.rd hN zo;refine sC htu ?_;rintro _ h3 n3 ⟨tb3,rb3,rfl,m3,f3⟩ y3 x3;have htm:=zj7 k (m2.ext x3 y3).rd m3.rd hN zo b2 (fun i j=>b2 j i);refine sC htm ?_;rintro _ h4 n4 ⟨tb4,rb4,rfl,m4,f4⟩ y4 x4;have X4:ExtT n T.bt h h4:=fun c hc hb=>(x4 c zo).trans ((x3 c zo).trans (hx2 c hc hb));have ht4:Tp h4 T:=ht2.ext (n:=T.m) (fun c hc=>(x4 c zo).trans (x3 c zo)) (Nat.le_refl _);clear x3 x4;refine zG ?_;refine retH [slN N tb4] ⟨rfl,(zi rfl),rfl⟩ ⟨⟨hw2,show n≤n4 by omega,ht4,X4⟩,tb4,rb4,_,rfl,m4,fun i j=>zh0 a i j K,fun i j=>(zgc b2 (fun i j=>b2 j i) i j K).mono zo⟩
theorem zh4 (k:Nat){a:Nat→Nat→Rat}(r:RD h n (.slice ar N cap) N a)(hN:1≤N∧N≤3)(hz:∀i j,i<N→j<N→Sz P (a i j))(hP:P≤32):CX (cal (k+7)) 27 [.slice ar N cap] h n fun v h' n'=>∃b,v=.agg #[.int .i64 (N:Int),.int .i64 (N:Int),.slice (some ⟨b,0,none⟩) (N*N) (N*N)]∧3*n≤b∧OT h' n' b ((tabL N a).map ratT):=by
 refine zk (fn:=Tryz.f27) R4 ?_;refine zG ?_;refine sA ?_;intro h1 p1 x1;refine zG ?_;refine sC (zkx k (r.ext x1 zs) hN hz hP) ?_;rintro _ h2 n2 ⟨b,rfl,f2,o2⟩ y2 x2;refine sS [.int .i64 (N:Int),.int .i64 (N:Int),.slice (some ⟨b,0,none⟩) (N*N) (N*N)] ?_;intro h3 p3 o3;refine zq ?_;exact ⟨b,rfl,zo,o2.go strP.kp (Tr.s o3 (Tr.refl _ _)) (o3.1 _ zo)⟩
end
end
section
theorem zmn:∀{Ns bs:List Nat},bs.length=Ns.length→(mds Ns bs).map (·.n)=Ns:=by
 intro Ns;induction Ns with
 |nil=>intro bs _;rfl
 |cons N Ns ih=>
  intro bs h;cases bs with
  |nil=>cases h
  |cons b bs=>show N::(mds Ns bs).map (·.n)=_;rw [ih (Nat.succ.inj h)]
section
variable {h:HF}{n:Nat}{T:TapeI}{p:Sdp}{F least:Nat}{aB aO aF aE:Option Addr}{lB cB lO cO lF cF lE cE:Nat}
theorem zk2 (k:Nat){m:Int}(hm:0<m∧m<1000000000)(ht:Tp h T)(hn:T.m≤n):CF (cal (k+1)) 10 [.pointer (some ⟨T.bt,0,none⟩),.int .i64 m] h n fun v h' n' w=>TLeft T h n h' n' w∧∃r:Int,v=.int .i64 r∧0≤r∧r<m:=by
 refine yh (um k hm ht hn) ?_;rintro v h' n' w ⟨h1,rfl,h3,h4,r⟩;exact ⟨⟨h1,Nat.le_refl _,h3,fun b _ hb=>h4 b hb⟩,r⟩
theorem zkv (k:Nat)(ht:Tp h T)(hn:T.m≤n)(hF:F≤100)(hp:SdpR h n (.slice aB lB cB) (.slice aO lO cO) (.slice aF lF cF) (.slice aE lE cE) p)(hok:SdpOk F least p)(hfB:∀a,aB=some a→a.block≠T.bt):
  CF (cal (k+9)) 24 [.pointer (some ⟨T.bt,0,none⟩),.agg #[.slice aB lB cB,.int .i64 (p.free:Int),.slice aO lO cO,.slice aF lF cF,.slice aE lE cE]] h n fun v h' n' w=>TLeft T h n h' n' w∧∃aX lX cX aU lU cU ds M us,v=.agg #[.slice aX lX cX,.slice aU lU cU]∧PtR h' n' (.slice aX lX cX) (.slice aU lU cU) p ds M us∧PtB p ds M us:=by
 have hbt:=ht.bt;have hbl:=hok.bl;have hfr:=hok.free;obtain ⟨Ns,hNs⟩:∃Ns,Ns=dimN p:=⟨_,rfl⟩;have hdl:Ns.length=p.blocks.length:=by rw [hNs];unfold dimN;rw [List.length_map]
 have lB1:lB=p.blocks.length:=hp.blocks.lenEq zo (by unfold i64s;rw [List.length_map,Nat.mul_one]);subst lB1;have hBg:∀{j N:Nat},Ns[j]?=some N→p.blocks[j]?=some (N:Int)∧1≤N∧N≤3:=fun {j N} hj=>by
  rw [hNs] at hj;unfold dimN at hj;rw [List.getElem?_map] at hj;cases hb:p.blocks[j]? with
  |none=>rw [hb] at hj;cases hj
  |some d=>
   rw [hb] at hj;have:=hok.b3 d (List.mem_of_getElem? hb);have hj:d.toNat=N:=Option.some.inj hj;rw [show (N:Int)=d by omega];exact ⟨rfl,zo,zo⟩
 refine zk (fn:=Tryz.f24) R4 ?_;refine zG ?_;refine sB [.slice aB p.blocks.length cB,.int .i64 (p.free:Int),.slice aO lO cO,.slice aF lF cF,.slice aE lE cE] ?_;intro h1 p1 x1;refine sA ?_;intro h2 p2 x2;refine zG ?_;refine sA ?_;intro h3 p3 x3;refine zG ?_;obtain ⟨e1,q1⟩:∃e,h3 (3*n+2)=some (.row [.slice aB p.blocks.length cB,.int .i64 (p.free:Int),.slice aO lO cO,.slice aF lF cF,.slice aE lE cE] e):=⟨_,zp⟩;obtain ⟨e2,q2⟩:∃e,h3 (3*(n+1)+2)=some (.row [.slice none 0 0,.slice none 0 0] e):=⟨_,zp⟩;obtain ⟨e3,q3⟩:∃e,h3 (3*(n+1+1)+2)=some (.row [.slice none 0 0,.slice none 0 0] e):=⟨_,zp⟩;have X3:Ext n h h3:=(zx:Tx n h (n+1+1+1) h3).2;have ht3:=ht.ext X3 hn;clear x1 x2 x3 p1 p2 p3;refine sF (α:=Nat×List Nat×Value×(Nat→Nat→Nat→Rat)) (fun z=>[(0,.pointer (some ⟨T.bt,0,none⟩)),(3,.pointer (some ⟨3*n+2,0,none⟩)),(4,.pointer (some ⟨3*(n+1)+2,0,none⟩)),(5,.pointer (some ⟨3*(n+1+1)+2,0,none⟩)),(9,.slice aB p.blocks.length cB),(10,.int .i64 (p.blocks.length:Int)),(11,.int .i64 (z.1:Int))])
  (fun z h' n' w'=>TLeft T h n h' n' w'∧n+1+1+1≤n'∧h' (3*n+2)=some (.row [.slice aB p.blocks.length cB,.int .i64 (p.free:Int),.slice aO lO cO,.slice aF lF cF,.slice aE lE cE] e1)∧h' (3*(n+1)+2)=some (.row [.slice none 0 0,.slice none 0 0] e2)∧h' (3*(n+1+1)+2)=some (.row [z.2.2.1,.slice none 0 0] e3)∧GR 3 mdP (n+1+1+1) h' n' 70 z.2.2.1 (mds (Ns.take z.2.1.length) z.2.1)∧(∀(k N b:Nat),Ns[k]?=some N→z.2.1[k]?=some b→OT h' n' b ((tabL N (z.2.2.2 k)).map ratT)∧¬BkOf z.2.2.1 b)∧(∀b∈z.2.1,3*(n+1+1+1)≤b)∧(∀k i j,z.2.2.2 k i j=z.2.2.2 k j i)∧(∀k i j,FN 1 8 (z.2.2.2 k i j))∧z.2.1.length=z.1∧z.1≤Ns.length) (fun z=>Ns.length-z.1)
  (0,[],.slice none 0 0,fun _ _ _=>0) ⟨⟨fun b hb=>absurd hb List.not_mem_nil,show n≤n+1+1+1 by omega,ht3,X3.t⟩,Nat.le_refl _,q1,q2,q3,GR.nil,fun k N b _ h=>(by have h:([]:List Nat)[k]?=some b:=h;simp at h),fun b hb=>absurd hb List.not_mem_nil,fun _ _ _=>rfl,fun _ _ _=>FN.zero _ _,rfl,Nat.zero_le _⟩ ?_
 rintro ⟨j,bs,v,M⟩ t h2 n2 w2 ⟨⟨hw2,y2,ht2,hx2⟩,y22,q1,q2,q3,g2,o2,fb,s2,b2,lj,hj⟩;have lj:bs.length=j:=lj;subst lj;have y2:n≤n2:=y2;have y22:n+1+1+1≤n2:=y22;have fb:∀b∈bs,3*(n+1+1+1)≤b:=fb;have hj:bs.length≤Ns.length:=hj;have q3:h2 (3*(n+1+1)+2)=some (.row [v,.slice none 0 0] e3):=q3;have s2:∀k i j,M k i j=M k j i:=s2;have b2:∀k i j,FN 1 8 (M k i j):=b2;have g2:GR 3 mdP (n+1+1+1) h2 n2 70 v (mds (Ns.take bs.length) bs):=g2;have o2:∀(k N b:Nat),Ns[k]?=some N→bs[k]?=some b→OT h2 n2 b ((tabL N (M k)).map ratT)∧¬BkOf v b:=o2;have hlz:(mds (Ns.take bs.length) bs).length=bs.length:=by rw [iT (by rw [List.length_take];omega),List.length_take];omega
 obtain ⟨av,rfl⟩:=g2.shape (L:=bs.length) hlz;clear ht3 X3;refine zG ?_;by_cases qj:(bs.length:Int)<(p.blocks.length:Int)
 ·obtain ⟨N,hNj⟩:∃N,Ns[bs.length]?=some N:=⟨_,List.getElem?_eq_getElem zo⟩;obtain ⟨hpj,hN3⟩:=hBg hNj;obtain ⟨b3,o3,e4,m3,r3,t3⟩:=qh hp.blocks hpj;have t3:At h2 b3 (o3+bs.length*1) [.int .i64 (N:Int)]:=t3.keep (hx2 b3 m3 (hfB _ e4));refine zG ?_;refine sI (j:=bs.length) e4 r3 ?_;refine sL t3 (show b3<3*n2 by omega) 0 ?_;refine zG ?_;have hnx:=zk2 (k+7) (m:=2) zd ht2 (show T.m≤n2 by omega);refine zu _ R5 hnx ?_;rintro _ h4 n4 w4 ⟨l4,r,rfl,hr0,hr1⟩;have T4:=l4.tr ht2;obtain ⟨hw4,y4,ht4,hx4⟩:=l4;have q41:=(hx4 (3*n+2) zo zo).trans q1;have q42:=(hx4 (3*(n+1)+2) zo zo).trans q2;have q43:=(hx4 (3*(n+1+1)+2) zo zo).trans q3;rcases (show r=0∨r=1 by omega) with rfl|rfl
  case' inl=>
   refine zG ?_;refine zl [0,1,0,0,0,16,48,124,252,508,1023,2047,4095] rfl ?_;refine zH ?_;have hn2:=zk2 (k+7) (m:=2) zd ht4 (show T.m≤n4 by omega);refine ct hn2 (fun x hx=>by rw [List.mem_singleton.1 hx];show 3*(n+1+1)+2≠T.bt;omega) ?_;rintro _ h5 n5 w5 l5 ⟨r,rfl,hr0,hr1⟩;have T5:=l5.tr ht4;obtain ⟨hw5,y5,ht5,hx5⟩:=l5;obtain ⟨s,rfl⟩:∃s:Nat,r=(s:Int):=⟨r.toNat,zo⟩;refine zH ?_;have hdf:=zln k (N:=N) (K:=1+s) hN3 zo ht5 (show T.m≤n5 by omega);refine ct hdf (fun x hx=>by rw [List.mem_singleton.1 hx];show 3*(n+1+1)+2≠T.bt;omega) ?_;rintro _ h6 n6 w6 l6 ⟨tb,rb,a,rfl,m6,s6,b6⟩;have T46:=T5.trans (l6.tr ht5);obtain ⟨hw6,y6,ht6,hx6⟩:=l6;have y46:n4≤n6:=zo;have hx46:ExtT n4 T.bt h4 h6:=fun c hc hb=>(hx6 c zo hb).trans (hx5 c hc hb);have hwT:=z9 (n0:=n) hw6 (z9 (n0:=n) hw5 (z9 (n0:=n) hw4 hw2));clear T5 hw5 y5 ht5 hx5 hw6 y6 hx6 hn2 hdf hr0 hr1
  case' inr=>
   refine zG ?_;refine zl [0,1,0,0,12,28,60,127,255,511] rfl ?_;refine zH ?_;have hsy:=zka (k+3) (N:=N) (K:=2) hN3 zo ht4 (show T.m≤n4 by omega);refine ct hsy (fun x hx=>by rw [List.mem_singleton.1 hx];show 3*(n+1+1)+2≠T.bt;omega) ?_;rintro _ h6 n6 w6 l6 ⟨tb,rb,a,rfl,m6,s6,b6⟩;have T46:=l6.tr ht4;obtain ⟨hw6,y46,ht6,hx46⟩:=l6;have b6:∀i j,FN 1 8 (a i j):=fun i j=>(b6 i j).mono zd;have hwT:=z9 (n0:=n) hw6 (z9 (n0:=n) hw4 hw2);clear hw6 hsy
  all_goals
   have hpk:=zh4 (k+1) m6.rd hN3 (P:=4) (fun i j _ _=>FN.sz (b6 i j) zd zd zd) zd;refine dC hpk ?_;rintro _ h7 n7 ⟨b7,rfl,f7,o7⟩ y7 x7;refine dMs [.int .i64 (N:Int),.int .i64 (N:Int),.slice (some ⟨b7,0,none⟩) (N*N) (N*N)] ?_;intro h8 p8 x8;have X68:Ext n6 h6 h8:=fun c hc=>(x8 c zo).trans (x7 c hc);have o8:=o7.ext strP.kp x8 zs;have hb7:=o7.1;have T28:Tr n2 h2 (n7+1) h8:=T4.trans (T46.trans ⟨show n6≤n7+1 by omega,fun c hc=>.inl (X68 c hc)⟩);have hx28:∀c,c<3*n2→c≠T.bt→h8 c=h2 c:=fun c hc hb=>(X68 c zo).trans ((hx46 c zo hb).trans (hx4 c hc hb));have ht8:Tp h8 T:=ht6.ext (n:=T.m) (fun c hc=>X68 c zo) (Nat.le_refl _);have g8:GR 3 mdP (n+1+1+1) h8 (n7+1) 70 (.slice av bs.length bs.length) (mds (Ns.take bs.length) bs):=g2.go mdP.kp T28 (fun b hb=>hx28 b (g2.bk b hb).2.1 (by have:=(g2.bk b hb).1;omega));refine dGm (n0:=n) [.int .i64 (N:Int),.int .i64 (N:Int),.slice (some ⟨b7,0,none⟩) (N*N) (N*N)] [⟨N,some ⟨b7,0,none⟩,N*N⟩] g8 mdP.kp (.cons (c:=[.int .i64 (N:Int),.int .i64 (N:Int),.slice (some ⟨b7,0,none⟩) (N*N) (N*N)]) rfl rfl .nil) ⟨rfl,rfl⟩ (yy p8 R2) (Nat.le_refl _) (by rw [hlz];show bs.length+1<_;omega) zo ?_;intro v9 h9 W9 g9 T9 X9 K9 F9;have g9:GR 3 mdP (n+1+1+1) h9 (n7+1+1) 70 v9 (mds (Ns.take (bs.length+1)) (bs++[b7])):=g9.as (kt (fun N b=>(⟨N,some ⟨b,0,none⟩,N*N⟩:MD)) hNj).symm;obtain ⟨a9,rfl⟩:=g9.shape (L:=bs.length+1) (by rw [iT (by rw [List.length_take,List.length_append];show bs.length+1=_;omega),List.length_take];omega);have hx29:∀c,c<3*n2→c≠T.bt→¬BkOf (.slice av bs.length bs.length) c→h9 c=h2 c:=fun c hc hb hn=>(K9 c zo hn).trans (hx28 c hc hb);have hx39:∀c,c<3*(n+1+1+1)→c≠T.bt→h9 c=h2 c:=fun c hc hb=>(X9 c hc).trans (hx28 c zo hb);have o9:OT h9 (n7+1+1) b7 ((tabL N a).map ratT):=o8.go strP.kp T9 (K9 b7 o8.1 (fun h=>by have:=(g2.bk _ h).2.1;omega));have q91:=(hx39 (3*n+2) zo zo).trans q1;have q92:=(hx39 (3*(n+1)+2) zo zo).trans q2;have q93:=(hx39 (3*(n+1+1)+2) zo zo).trans q3;have ht9:Tp h9 T:=ht8.ext (n:=T.m) (fun c hc=>X9 c zo) (Nat.le_refl _);have T29:=T28.trans T9;clear x7 x8 X68 X9 K9 hx28 T28 T9 p8 T46 hx46 T4 hx4 q41 q42 q43 ht8 ht6 ht4 g8 o7 o8;refine zH ?_;refine dSx (n0:=n) [.slice a9 (bs.length+1) (bs.length+1),.slice none 0 0] q93 ?_;intro h10 p10 s10;rw [xv (show 3*n≤3*(n+1+1)+2 by omega)];refine zG ?_;refine sK (bs.length+1,bs++[b7],.slice a9 (bs.length+1) (bs.length+1),fun k=>if k=bs.length then a else M k) ⟨⟨hwT,show n≤n7+1+1 by omega,ht9.ext (n:=T.m) (fun c hc=>s10.1 c zo) (Nat.le_refl _),fun c hc hb=>(s10.1 c zo).trans ((hx39 c zo hb).trans (hx2 c hc hb))⟩,zo,(s10.1 _ zo).trans q91,(s10.1 _ zo).trans q92,p10,?_,?_,?_,?_,?_,?_,?_⟩
   ·exact (g9.as (by rw [List.length_append];rfl)).go mdP.kp (Tr.s s10 (Tr.refl _ _)) (fun b hb=>s10.1 b (by have:=(g9.bk b hb).1;omega))
   ·intro k' N' b' h0 h1;have h1:(bs++[b7])[k']?=some b':=h1;have hl1:=(List.getElem?_eq_some_iff.1 h1).1;rw [List.length_append] at hl1;have hl1:k'<bs.length+1:=hl1;show OT h10 _ b' ((tabL N' (if k'=bs.length then a else M k')).map ratT)∧_;by_cases hk:k'<bs.length
    ·rw [List.getElem?_append_left hk] at h1;rw [if_neg zo];obtain ⟨u1,u2⟩:=o2 k' N' b' h0 h1;have hbl:=u1.1;have hb3:=fb b' (List.mem_of_getElem? h1);exact ⟨u1.go strP.kp (Tr.s s10 T29) ((s10.1 b' zo).trans (hx29 b' hbl zo u2)),fun h=>by have:=F9 b' h;omega⟩
    have hk:k'=bs.length:=zo;subst hk;rw [if_pos rfl];rw [List.getElem?_append_right (Nat.le_refl _),Nat.sub_self] at h1;rw [hNj] at h0;cases h0;cases h1;exact ⟨o9.go strP.kp (Tr.s s10 (Tr.refl _ _)) (s10.1 _ zo),fun h=>by have:=F9 b7 h;omega⟩
   ·intro b hb;rcases List.mem_append.1 hb with hb|hb
    ·exact fb b hb
    rw [List.mem_singleton.1 hb];omega
   ·intro k' i j;show (if k'=bs.length then a else M k') i j=(if k'=bs.length then a else M k') j i;split
    ·exact s6 i j
    exact s2 k' i j
   ·intro k' i j;show FN 1 8 ((if k'=bs.length then a else M k') i j);split
    ·exact b6 i j
    exact b2 k' i j
   ·show (bs++[b7]).length=_;rw [List.length_append];rfl
   show bs.length+1≤_;omega
 have hjl:bs.length=Ns.length:=zo;obtain ⟨bm,eb,hg,hlo2,o6,_⟩:=g2.or hlz zo;injection eb with eb
 subst eb;rw [hjl,List.take_length] at o6;refine zG ?_;have hnums:=zml (k+1) ht2 (show T.m≤n2 by omega) (N:=p.free) zo;refine zu _ R5 hnums ?_;rintro _ h3 n3 w3 ⟨l3,aq,qs,rfl,lq,hq,iq⟩;have T3:=l3.tr ht2;obtain ⟨hw3,y3,ht3,hx3⟩:=l3;have q31:=(hx3 (3*(n+1)+2) zo zo).trans q2;have q32:=(hx3 (3*(n+1+1)+2) zo zo).trans q3;refine zG ?_;have htx:=zdt (k+2) iq zo (fun q hq'=>(hq q hq').ok.1) zo;refine sC htx ?_;rintro _ h4 n4 ⟨b4,rfl,f4,o4⟩ y4 x4;have q41:=(x4 (3*(n+1)+2) zo).trans q31;have q42:=(x4 (3*(n+1+1)+2) zo).trans q32;refine zG ?_;refine sSx (n0:=n) [.slice (some ⟨bm,0,none⟩) bs.length bs.length,.slice (some ⟨b4,0,none⟩) p.free p.free] q42 ?_;intro h5 p5 s5;rw [xv (show 3*n≤3*(n+1+1)+2 by omega)];have q51:=(s5.1 (3*(n+1)+2) zo).trans q41;refine zG ?_;refine sSx (n0:=n) [.slice (some ⟨bm,0,none⟩) bs.length bs.length,.slice (some ⟨b4,0,none⟩) p.free p.free] q51 ?_;intro h6 p6 s6;rw [xv (show 3*n≤3*(n+1)+2 by omega)];have hx46:∀c,c≠3*(n+1)+2→c≠3*(n+1+1)+2→h6 c=h4 c:=fun c ha hb=>(s6.1 c ha).trans (s5.1 c hb);have T46:Tr n4 h4 n4 h6:=Tr.s s6 (Tr.s s5 (Tr.refl _ _));have T36:Tr n2 h2 n4 h6:=T3.trans (Tr.trans ⟨y4,fun c hc=>.inl (x4 c hc)⟩ T46);have hx26:∀c,c<3*n2→c≠T.bt→c≠3*(n+1)+2→c≠3*(n+1+1)+2→h6 c=h2 c:=fun c hc h1 h2 h3=>(hx46 c h2 h3).trans ((x4 c zo).trans (hx3 c hc h1));have ht6:Tp h6 T:=ht3.ext (n:=T.m) (fun c hc=>(hx46 c zo zo).trans (x4 c zo)) (Nat.le_refl _);refine zG ?_;refine yP R5 p6 rfl ⟨⟨z9 hw3 hw2,show n≤n4 by omega,ht6,fun c hc hb=>(hx26 c zo hb zo zo).trans (hx2 c hc hb)⟩,_,_,_,_,_,_,mds Ns bs,M,qs,rfl,⟨⟨?_,?_⟩,?_⟩,⟨?_,lq,s2,b2,hq⟩⟩
 ·exact OR.sl (o6.go mdP.kp T36 (hx26 bm o6.1 zo zo zo)) (by rw [iT hjl];exact hjl) (Nat.le_refl _)
 ·intro k' d hd;obtain ⟨N,b,h1,h2,rfl⟩:=zig hd;have u:=(o2 k' N b h1 h2).1;have hb3:=fb b (List.mem_of_getElem? h2);exact OT.sl (u.go strP.kp T36 (hx26 b u.1 zo zo zo)) (by rw [List.length_map,yO]) (Nat.le_refl _)
 ·exact OT.sl (o4.go strP.kp T46 (hx46 b4 zo zo)) (by rw [List.length_map];exact lq.symm) (Nat.le_refl _)
 rw [←hNs];exact zmn hjl
end
end
section
structure SdpStr (R:List UInt8→Prop)(p:Sdp):Prop where
 obj:∀e∈p.obj,R e.v
 objFree:∀s∈p.objFree,R s
 eqs:∀q∈p.eqs,(∀e∈q.es,R e.v)∧∀s∈q.rhs::q.fr,R s
end
section
theorem zaz (k:Nat){h:HF}(hG:GK.G h)(n:Nat):VF (cal (k+1)) 9 [] h n fun v=>v=.bool true:=⟨_,_,_,_,zcn k hG n,rfl,rfl,rfl,rfl⟩
structure Sdp60 (p:Sdp):Prop where
 ol:p.obj.length≤60
 fl:p.objFree.length≤60
 el:p.eqs.length≤60
 qs:∀q∈p.eqs,q.es.length≤60∧q.fr.length≤60
end
section
variable {m sz:Nat}{v vB vE vF vO:Value}{c:List Value}{S:List (List UInt8)}{qs:List Eqn}
theorem Sl.tape {h h':HF}{n n' b:Nat}{C:List Value}{e:TypeId}(s:Sl h n sz v c)(hC:h b=some (.row C e))(hx:∀x,x<3*n→x≠b→h' x=h x)(hn:n≤n')(hsz:0<sz)(hne:c≠[]→∀o,(C.drop o).take c.length≠c):Sl h' n' sz v c:=by
 cases s with
 |nil ha=>exact .nil (tn ha hn)
 | @at_ b' off len cap x cs cells hb hx' hc hcap hl he=>
  have hlc:c.length=len*sz:=by rw [←he,List.length_take,List.length_drop];omega
  by_cases e':b'=b
  ·subst e';rw [hC] at hx';cases hx';cases hc;by_cases hc0:c=[]
   ·subst hc0;have:len=0:=by
     rcases Nat.eq_zero_or_pos len with h0|h0
     ·exact h0
     have:=Nat.mul_pos h0 hsz;have hlc:0=len*sz:=hlc;omega
    subst this;exact .nil (.inr ⟨_,_,_,rfl,zo⟩)
   exact absurd (hlc▸he) (hne hc0 off)
  exact .at_ zo ((hx _ hb e').trans hx') hc hcap hl he
section
variable {h h':HF}{n n' b:Nat}{a:Option Addr}{l k:Nat}{z:Int}{e:TypeId}
theorem iQ (hl:3≤c.length)(o:Nat):(([Value.slice a l k,.int .i64 z]:List Value).drop o).take c.length≠c:=fun h=>by
 have:=congrArg List.length h;rw [List.length_take,List.length_drop] at this;have h2:([Value.slice a l k,.int .i64 z]:List Value).length=2:=rfl;omega
theorem zaj (h0:strs S≠[])(o:Nat):(([Value.slice a l k,.int .i64 z]:List Value).drop o).take (strs S).length≠strs S:=fun h=>by
 cases S with
 |nil=>exact h0 rfl
 |cons s S=>
  have h1:Value.string ⟨⟨s⟩⟩∈(([Value.slice a l k,.int .i64 z]:List Value).drop o).take (strs (s::S)).length:=by rw [h];exact List.mem_cons_self
  have h2:=List.mem_of_mem_drop (List.mem_of_mem_take h1);rcases List.mem_cons.1 h2 with h2|h2
  ·cases h2
  rw [List.mem_singleton] at h2;cases h2
theorem EqR.tape {ce:List Value}(r:EqR h n ce qs)(hC:h b=some (.row [.slice a l k,.int .i64 z] e))(hx:∀x,x<3*n→x≠b→h' x=h x)(hn:n≤n'):EqR h' n' ce qs:=by
 induction r with
 |nil=>exact .nil
 | @cons ve vf q cs qs h1 h2 h3 ih=>
  exact .cons (h1.tape hC hx hn zd (fun hne=>iQ (by
   cases hq:q.es with
   |nil=>rw [hq] at hne;exact absurd rfl hne
   |cons x y=>rw [yQ,List.length_cons];omega))) (h2.tape hC hx hn zd zaj) ih
theorem SdpR.tape {p:Sdp}(r:SdpR h n vB vO vF vE p)(hC:h b=some (.row [.slice a l k,.int .i64 z] e))(hx:∀x,x<3*n→x≠b→h' x=h x)(hn:n≤n')(hf:ya m vB)(hb:b<3*m):SdpR h' n' vB vO vF vE p:=by
 obtain ⟨h1,h2,h3,ce,h4,h5⟩:=r;refine ⟨h1.keep (fun a' l' c' e'=>?_) hn,h2.tape hC hx hn zd (fun hne=>iQ (by
   cases hq:p.obj with
   |nil=>rw [hq] at hne;exact absurd rfl hne
   |cons x y=>rw [yQ,List.length_cons];omega)),h3.tape hC hx hn zd zaj,ce,h4.tape hC hx hn zd (fun hne=>iQ (by
   rw [h5.len];cases hq:p.eqs with
   |nil=>rw [hq] at h5;cases h5;exact absurd rfl hne
   |cons x y=>rw [List.length_cons];omega)),h5.tape hC hx hn⟩
 subst e';have h6:3*m≤a'.block:=hf;have h7:a'.block<3*n:=h1.below;exact hx _ h7 zo
end
end
section
theorem kN (k:Nat){h:HF}(hG:GK.G h){n:Nat}(hn:20≤n){aL:Option Addr}{lL cL:Nat}{L:List Int}(hLs:∀ad,aL=some ad→ad.spot=none)(hL:Sl h n 1 (.slice aL lL cL) (i64s L)):
  VF (cal (k+20)) 4 [.slice aL lL cL] h n fun v=>v=.bool true:=by
 have g:GG h n:=⟨hG,hn⟩;refine zw (fn:=Tryz.f4) R4 ?_;refine zG ?_;refine zu _ R5 (zk3 (k+18) hLs hL) ?_;rintro _ h1 _ _ ⟨rfl,rfl,hx1,rfl,hT1⟩;refine zG ?_;have hprog:=dq (k+13) (F:=2) (least:=0) zo hT1 (n:=n+1) (Nat.le_refl _);refine zu _ R5 hprog ?_;rintro _ h2 n2 w2 ⟨⟨hw2,hn2,hT2,hx2⟩,p,vB,vO,vF,vE,rfl,hp,hok,hfB,_,_,_⟩;have hw2:∀b∈w2,b=3*n+2:=hw2;have hx2:∀b,b<3*(n+1)→b≠3*n+2→h2 b=h1 b:=hx2;obtain ⟨aB,lB,cB,rfl,_⟩:=hp.blocks.len;obtain ⟨aO,lO,cO,rfl,_⟩:=hp.obj.len;obtain ⟨aF,lF,cF,rfl,_⟩:=hp.objFree.len;obtain ⟨ce0,hE0,hEq0⟩:=hp.eqs;obtain ⟨aE,lE,cE,rfl,_⟩:=hE0.len;rw [mw,yc (W:=w2) (fun b hb=>by have:=hw2 b hb;omega)];have X2:Ex0 n h h2:=⟨fun c hc=>(hx2 c zo zo).trans (hx1 c hc)⟩;clear hx1 hx2 hT1 hE0 hEq0;refine zG ?_;refine sA ?_;intro h3 p3 x3;refine sS [.slice aB lB cB,.int .i64 (p.free:Int),.slice aO lO cO,.slice aF lF cF,.slice aE lE cE] ?_;intro h4 p4 o4;have X24:Ext n2 h2 h4:=(zx:Tx n2 h2 (n2+1) h4).2;have hp4:=hp.ext0 X24 (show n2≤n2+1 by omega);have hT4:=hT2.ext X24 (show n+1≤n2 by omega);have E4:Ex0 n h h4:=⟨fun c hc=>(X24 c zo).trans (X2.e c hc)⟩;have g4:GG h4 (n2+1):=g.ext E4.e zo;clear x3 p3 o4 X24 hp hT2 X2;refine zG ?_;refine zl [0,1,3,3,3,27,63,127,255] rfl ?_;refine zH ?_;refine dC (zaz (k+18) g4.1 _).cx ?_;rintro _ h5 n5 rfl y5 x5;have hT5:=hT4.ext x5 (show n+1≤n2+1 by omega);have hp5:=hp4.ext0 x5 y5;have p5:=(x5 (3*n2+2) zo).trans p4;have E5:Ex0 n h h5:=⟨fun c hc=>(x5 c zo).trans (E4.e c hc)⟩;clear x5 p4 E4 hT4 hp4;refine zH ?_;have hpt:=zkv (k+10) (F:=2) hT5 (show n+1≤n5 by omega) zo hp5 hok (fun a ha hb=>by
  have h6:3*(n+1)≤a.block:=by subst ha;exact hfB
  have hb:a.block=3*n+2:=hb;omega)
 refine ct hpt (fun x hx=>by
  rcases List.mem_cons.1 hx with rfl|hx
  ·show 3*n2+2≠3*n+2;omega
  ·rw [List.mem_singleton.1 hx];show 3*n2+2≠3*n+2;omega) ?_
 rintro _ h6 n6 w6 ⟨hw6,y6,hT6,hx6⟩ ⟨aX,lX,cX,aU,lU,cU,ds,M,us,rfl,hpr,hpb⟩;have hw6:∀b∈w6,b=3*n+2:=hw6;have hx6:∀b,b<3*n5→b≠3*n+2→h6 b=h5 b:=hx6;rw [mw,yc (W:=w6) (fun b hb=>by have:=hw6 b hb;omega)];obtain ⟨pos5,e5,hrow5,_⟩:=hT5.row;have hp6:=hp5.tape hrow5 hx6 y6 hfB (show 3*n+2<3*(n+1) by omega);have g6:GG h6 n6:=g.ext (fun c hc=>(hx6 c zo zo).trans (E5.e c hc)) zo;have hcm:=cmpX k g6 (F:=2) zo hp6 hok hpr hpb;refine dC hcm.cx ?_;rintro _ h7 n7 rfl y7 x7;refine zH ?_;refine zG ?_;refine zf ?_;rfl
end
def upFn (nm:Nat→Nat):Fn→Fn
 | .yield l=>.yield (nm l)
 |f=>f
mutual
def up (nm:Nat→Nat):Value→Value
 | .pointer (some a)=>.pointer (some ⟨nm a.block,a.off,a.spot⟩)
 | .slice (some a) l c=>.slice (some ⟨nm a.block,a.off,a.spot⟩) l c
 | .func f a b=>.func (upFn nm f) (upA nm a) (upA nm b)
 | .agg cs=>.agg (upA nm cs)
 | .tuple cs=>.tuple (upA nm cs)
 |v=>v
def upA (nm:Nat→Nat):Array Value→Array Value
 |⟨l⟩=>⟨upL nm l⟩
def upL (nm:Nat→Nat):List Value→List Value
 |[]=>[]
 |v::r=>up nm v::upL nm r
end
mutual
theorem gt {nm:Nat→Nat}(hb:∀b,ρ.b (nm b)=b)(hx:∀b,ρ.x (nm b)=0)(hg:∀b,gro (nm b)=false):∀v:Value,conc ρ (up nm v)=v
 | .pointer none=>rfl
 | .pointer (some a)=>by simp [up,conc,Ren.addr,hb]
 | .slice none _ _=>rfl
 | .slice (some a) l c=>by
  simp only [up,conc];rw [ρ.adrS_old (hg a.block),hx];simp [Ren.addr,hb]
 | .func f a b=>by
  have h1:ρ.fn (upFn nm f)=f:=by cases f<;>simp [upFn,Ren.fn,hb]
  simp only [up,conc,h1,pt hb hx hg a,pt hb hx hg b]
 | .agg cs=>by simp only [up,conc,pt hb hx hg cs]
 | .tuple cs=>by simp only [up,conc,pt hb hx hg cs]
 | .bool _=>by simp [up,conc]
 | .int _ _=>by simp [up,conc]
 | .float _ _=>by simp [up,conc]
 | .complex _ _ _=>by simp [up,conc]
 | .string _=>by simp [up,conc]
 | .map _=>by simp [up,conc]
 | .chan _=>by simp [up,conc]
 | .nilFunc=>by simp [up,conc]
 | .nilIface=>by simp [up,conc]
 | .iface _ _=>by simp [up,conc]
theorem pt {nm:Nat→Nat}(hb:∀b,ρ.b (nm b)=b)(hx:∀b,ρ.x (nm b)=0)(hg:∀b,gro (nm b)=false):∀a:Array Value,oU ρ (upA nm a)=a
 |⟨l⟩=>by simp only [upA,oU,ew hb hx hg l]
theorem ew {nm:Nat→Nat}(hb:∀b,ρ.b (nm b)=b)(hx:∀b,ρ.x (nm b)=0)(hg:∀b,gro (nm b)=false):∀l:List Value,nD ρ (upL nm l)=l
 |[]=>rfl
 |v::r=>by simp only [upL,nD,gt hb hx hg v,ew hb hx hg r]
end
def bdFn:Fn→Nat
 | .yield l=>l+1
 |_=>0
mutual
def bd:Value→Nat
 | .pointer (some a)=>a.block+1
 | .slice (some a) _ _=>a.block+1
 | .func f a b=>bdFn f+bdA a+bdA b
 | .agg cs=>bdA cs
 | .tuple cs=>bdA cs
 |_=>0
def bdA:Array Value→Nat
 |⟨l⟩=>bdL l
def bdL:List Value→Nat
 |[]=>0
 |v::r=>bd v+bdL r
end
theorem zfo (ha:Agr m ρ ρ'){a:Addr}(h:a.block<m):ρ'.addr a=ρ.addr a:=by
 unfold Ren.addr;rw [(ha _ h).1]
theorem zfn (ha:Agr m ρ ρ'){a:Addr}(h:a.block<m){c:Nat}:ρ'.adrS a l c=ρ.adrS a l c:=by
 unfold Ren.adrS Ren.addr;rw [(ha _ h).1,(ha _ h).2]
mutual
theorem zib:∀(v:Value) (m:Nat),bd v≤m→Nb m v
 | .pointer none,m,_=>fun ρ ρ' _=>by simp
 | .pointer (some a),m,h=>fun ρ ρ' ha=>by
  simp only [bd] at h;simp only [conc,zfo ha (show a.block<m by omega)]
 | .slice none _ _,m,_=>fun ρ ρ' _=>by simp
 | .slice (some a) l c,m,h=>fun ρ ρ' ha=>by
  simp only [bd] at h;simp only [conc,zfn ha (show a.block<m by omega),(ha _ (show a.block<m by omega)).2]
 | .func f a b,m,h=>fun ρ ρ' ha=>by
  simp only [bd] at h;have h1:ρ'.fn f=ρ.fn f:=by
   cases f<;>simp [Ren.fn];rename_i l;exact (ha l (by simp only [bdFn] at h;omega)).1
  simp only [conc,h1,fv a m zo ρ ρ' ha,fv b m zo ρ ρ' ha]
 | .agg cs,m,h=>fun ρ ρ' ha=>by
  simp only [bd] at h;simp only [conc,fv cs m h ρ ρ' ha]
 | .tuple cs,m,h=>fun ρ ρ' ha=>by
  simp only [bd] at h;simp only [conc,fv cs m h ρ ρ' ha]
 | .bool _,m,_=>fun ρ ρ' _=>by simp [conc]
 | .int _ _,m,_=>fun ρ ρ' _=>by simp [conc]
 | .float _ _,m,_=>fun ρ ρ' _=>by simp [conc]
 | .complex _ _ _,m,_=>fun ρ ρ' _=>by simp [conc]
 | .string _,m,_=>fun ρ ρ' _=>by simp [conc]
 | .map _,m,_=>fun ρ ρ' _=>by simp [conc]
 | .chan _,m,_=>fun ρ ρ' _=>by simp [conc]
 | .nilFunc,m,_=>fun ρ ρ' _=>by simp [conc]
 | .nilIface,m,_=>fun ρ ρ' _=>by simp [conc]
 | .iface _ _,m,_=>fun ρ ρ' _=>by simp [conc]
theorem fv:∀(a:Array Value) (m:Nat),bdA a≤m→∀ρ ρ':Ren,Agr m ρ ρ'→oU ρ' a=oU ρ a
 |⟨l⟩,m,h=>fun ρ ρ' ha=>by
  simp only [bdA] at h;simp only [oU,zgg l m h ρ ρ' ha]
theorem zgg:∀(l:List Value) (m:Nat),bdL l≤m→∀ρ ρ':Ren,Agr m ρ ρ'→nD ρ' l=nD ρ l
 |[],m,_=>fun ρ ρ' _=>rfl
 |v::r,m,h=>fun ρ ρ' ha=>by
  simp only [bdL] at h;simp only [nD,zib v m zo ρ ρ' ha,zgg r m zo ρ ρ' ha]
end
theorem zct:∀{l:List Value} {v:Value},v∈l→bd v≤bdL l:=by
 intro l;induction l with
 |nil=>intro v hv;cases hv
 |cons a l ih=>
  intro v hv;simp only [bdL];rcases List.mem_cons.1 hv with rfl|hv
  ·omega
  have:=ih hv;omega
def uR (W:World)(b:Nat):Option (List Value):=match W.heap[b]? with|some (.cells c _ _)=>some c.toList|_=>none
noncomputable def wh (nm:Nat→Nat)(W:World):Nat→Hp
 |0=>.lf
 |k+1=>match uR W k with|some c=>Tr.put (wh nm W k) (nm k) (some (.ro (c.map (up nm))))|none=>wh nm W k
theorem br {nm:Nat→Nat}(hi:∀a b,nm a=nm b→a=b)(W:World):∀k x y,(wh nm W k).at x=some y↔∃b,b<k∧x=nm b∧∃c,uR W b=some c∧y=.ro (c.map (up nm)):=by
 intro k;induction k with
 |zero=>
  intro x y;constructor
  ·intro h;cases h
  rintro ⟨b,hb,_⟩;omega
 |succ k ih=>
  intro x y;unfold wh;cases hc:uR W k with
  |none=>
   simp only;rw [ih];constructor
   ·rintro ⟨b,hb,h⟩;exact ⟨b,zo,h⟩
   rintro ⟨b,hb,rfl,c,h1,h2⟩;have:b≠k:=fun e=>by rw [e,hc] at h1;cases h1
   exact ⟨b,zo,rfl,c,h1,h2⟩
  |some c=>
   simp only;show Tr.get none (Tr.put (wh nm W k) (nm k) _) x=some y↔_;rw [Tr.get_put none rfl];by_cases hx:x=nm k
   ·rw [if_pos hx];constructor
    ·intro h;injection h with h;exact ⟨k,zo,hx,c,hc,h.symm⟩
    rintro ⟨b,hb,e,c',h1,h2⟩;have hbk:b=k:=hi _ _ (e.symm.trans hx);rw [hbk,hc] at h1;injection h1 with h1
    rw [h2,h1]
   rw [if_neg hx];show (wh nm W k).at x=some y↔_;rw [ih];constructor
   ·rintro ⟨b,hb,h⟩;exact ⟨b,zo,h⟩
   rintro ⟨b,hb,e,h⟩;have:b≠k:=fun ee=>hx (by rw [e,ee]);exact ⟨b,zo,e,h⟩
def nm (b:Nat):Nat:=if b=1∨b=0∨b=4 then 3*b else 3*b+2
theorem k9 (a b:Nat)(h:nm a=nm b):a=b:=by
 unfold nm at h;split at h<;>split at h<;>omega
def ren0:Ren:=⟨fun x=>x/3,fun _=>0,fun _ _=>rfl,fun g=>by simp⟩
theorem pT (b:Nat):ren0.b (nm b)=b:=by
 unfold nm ren0;split<;>simp<;>omega
theorem zh8 (h:b<n):nm b<3*n:=by
 unfold nm;split<;>omega
theorem zge (b:Nat):gro (nm b)=false:=by
 unfold nm gro;split
 ·rw [Nat.mul_mod_right];rfl
 rw [Nat.mul_add_mod];rfl
noncomputable def wH (W:World):Hp:=wh nm W W.heap.size
theorem zj3 (W:World):Sim rel ren0 (wH W) W:=by
 refine ⟨fun x y h=>?_,fun x x' h h' e=>?_⟩
 ·obtain ⟨b,hb,rfl,c,hc,rfl⟩:=(br k9 W _ _ _).1 h;unfold uR at hc;split at hc
  ·rename_i c' e fz hW;injection hc with hc
   subst hc;refine ⟨_,by rw [pT];exact hW,e,fz,?_⟩;rw [List.map_map];have:(c'.toList.map (conc ren0 ∘ up nm))=c'.toList:=by
    conv=>rhs;rw [←List.map_id c'.toList]
    exact List.map_congr_left fun v _=>gt pT (fun _=>rfl) zge v
   rw [this]
  cases hc
 obtain ⟨y,hy⟩:=Option.isSome_iff_exists.1 h;obtain ⟨y',hy'⟩:=Option.isSome_iff_exists.1 h';obtain ⟨b,_,rfl,_⟩:=(br k9 W _ _ _).1 hy;obtain ⟨b',_,rfl,_⟩:=(br k9 W _ _ _).1 hy';rw [pT,pT] at e;rw [e]
structure Wn (W:World)(n:Nat):Prop where
 sz:W.heap.size≤n
 le:∀(b:Nat) (c:Array Value) (e:TypeId) (fz:Nat×Nat),W.heap[b]?=some (Obj.cells c e fz)→∀v∈c.toList,bd (up nm v)≤3*n
theorem zl4 (W:World)(args:List Value):∃n,20≤n∧Wn W n∧HNb (3*n) (wH W)∧∀v∈args,bd v≤3*n:=by
 have key:∀k,∃m,∀b,b<k→∀c,uR W b=some c→bdL (c.map (up nm))≤m:=by
  intro k;induction k with
  |zero=>exact ⟨0,fun b hb=>by omega⟩
  |succ k ih=>
   obtain ⟨m,hm⟩:=ih;cases hc:uR W k with
   |none=>exact ⟨m,fun b hb c h=>hm b (by (have:b≠k:=fun e=>by rw [e,hc] at h;cases h);omega) c h⟩
   |some c'=>
    refine ⟨m+bdL (c'.map (up nm)),fun b hb c h=>?_⟩;by_cases hbk:b=k
    ·rw [hbk,hc] at h;injection h with h;subst h;omega
    have:=hm b zo c h;omega
 obtain ⟨m,hm⟩:=key W.heap.size;refine ⟨20+W.heap.size+m+bdL args,zo,⟨zo,fun b c e fz hW v hvm=>?_⟩,fun x y h=>?_,fun v hv=>by have:=zct hv;omega⟩
 ·have hb:b<W.heap.size:=by
   rcases Nat.lt_or_ge b W.heap.size with h'|h'
   ·exact h'
   rw [Array.getElem?_eq_none h'] at hW;cases hW
  have h1:=hm b hb c.toList (by unfold uR;rw [hW]);have h2:=zct (List.mem_map_of_mem (f:=up nm) hvm);omega
 obtain ⟨b,hb,rfl,c,hc,rfl⟩:=(br k9 W _ _ _).1 h;exact ⟨zh8 zo,fun v hv=>zib v _ (by have:=zct hv;have:=hm b hb c hc;omega)⟩
theorem gJ {W:World}{c:Array Value}{fz:Nat×Nat}(h:W.heap[b]?=some (.cells c e fz)):hv (wH W) (nm b)=some (.ro (c.toList.map (up nm))):=by
 have hb:b<W.heap.size:=by
  rcases Nat.lt_or_ge b W.heap.size with h'|h'
  ·exact h'
  rw [Array.getElem?_eq_none h'] at h;cases h
 exact ziu ((br k9 W _ _ _).2 ⟨b,hb,rfl,_,by unfold uR;rw [h],rfl⟩)
theorem cI {W:World}(f:FuncId)(args:List Value)(k:Nat)(hrun:∀n,20≤n→Wn W n→(∀v∈args.map (up nm),bd v≤3*n)→VF (cal k) f (args.map (up nm)) (hv (wH W)) n fun v=>v=.bool true):
  Calls Tryz.prog f args.toArray W fun e w'=>e=.returned (.bool true)∧RowKit.Below W.heap.size W w':=by
 obtain ⟨n,hn,hs,hnb,hbd⟩:=zl4 W (args.map (up nm));have ha:∀v∈args.map (up nm),Nb (3*n) v:=fun v hv=>zib v _ (hbd v hv);obtain ⟨v,h',n',w,hc,e1,e2,e3,e4⟩:=hrun n hn hs hbd;rw [e1,e2,e3,e4] at hc;obtain ⟨⟨v2,h2,n2,w2⟩,hx,hy⟩:=(zjl k).call f (args.map (up nm)) (wH W) n _ hc;obtain ⟨e1,e2,e3,e4⟩:v2=.bool true∧hv h2=hv (wH W)∧n2=n∧w2=[]:=by
  simpa [rv] using hy
 subst e1 e3 e4;obtain ⟨_,hcall⟩:=(zlw k).call _ _ _ _ _ _ _ _ hx 0 ren0 W (zj3 W) hnb ha;have hargs:((args.map (up nm)).map (conc ren0))=args:=by
  rw [List.map_map]
  conv=>rhs;rw [←List.map_id args]
  exact List.map_congr_left fun v _=>gt pT (fun _=>rfl) zge v
 rw [hargs] at hcall;refine (callsIn_wide.1 hcall).mono fun e w' ⟨ρ',he,hp⟩=>⟨by rw [he];simp,?_⟩;exact ⟨hp.os,hp.tape,hp.out,hp.size,fun j hj=>hp.fr j hj fun b hb=>absurd hb List.not_mem_nil⟩
end Go.Proofs.YtfajmfoofmienaaGreatDoor
namespace Go.Proofs.YtfajmfoofmienaaGreatDoor
open Go Go.GL Go.ChangeShapes Go.WideShapes Go.RowKit
section
set_option maxRecDepth 100000
variable {H:Type}{base n:Nat}{e t:TypeId}{cs:List Value}{v:Value}
theorem iY {enc:TypeId×Value→H}{P:Program}{w:World}{sp:Nat→Bool}{held:Bool}{fuel:Nat}{k:IntKind}{c:Value}{y:DataW H×List MemPlace}
  (ht:P.underlying t=some (.int k))(h:DataW.trod enc P w base sp held fuel t [c]=some y):∃n,c=.int k n∧y=(.lit (.int k n),[]):=by
 cases fuel with
 |zero=>simp [DataW.trod] at h
 |succ fuel=>
  cases c<;>simp [DataW.trod,ht] at h;rename_i k' n;obtain ⟨⟨rfl,_⟩,rfl⟩:=h;exact ⟨n,rfl,rfl⟩
theorem km {enc:TypeId×Value→H}{P:Program}{w:World}{sp:Nat→Bool}{held:Bool}{fuel:Nat}{k:IntKind}{l:List Int}{p:List MemPlace}
  (ht:P.underlying t=some (.array n e))(he:P.underlying e=some (.int k))(hce:P.cellsOf e=1)(hct:P.cellsOf t=n)
  (h:DataW.trod enc P w base sp held fuel t cs=some (.agg (l.map fun z=>.lit (.int k z)),p)):cs=l.map fun z=>Value.int k z:=by
 cases fuel with
 |zero=>simp [DataW.trod] at h
 |succ fuel=>
  simp only [DataW.trod,ht] at h;split at h
  ·rename_i hl;rw [hct] at hl;rw [Option.map_eq_some_iff] at h;obtain ⟨xs,hx,hy⟩:=h;simp only [Prod.mk.injEq,DataW.agg.injEq] at hy;obtain ⟨hy,_⟩:=hy;have hlen:=mapM_some_length hx;rw [List.length_range] at hlen;have hll:l.length=n:=by
    have:=congrArg List.length hy;simp at this;omega
   apply List.ext_getElem?;intro i;by_cases hi:i<n
   ·have hg:=mapM_some_get hx i i (by simp [hi]);obtain ⟨y,hxi⟩:∃y,xs[i]?=some y:=⟨xs[i]'zo,List.getElem?_eq_getElem zo⟩;rw [hxi,hce,Nat.mul_one] at hg;have hd:(cs.drop i).take 1=[cs[i]'zo]:=by
     rw [List.drop_eq_getElem_cons zo];rfl
    rw [hd] at hg;obtain ⟨z,hz,rfl⟩:=iY he hg;have h2:=congrArg (fun q=>q[i]?) hy;simp only [List.getElem?_map,hxi,Option.map_some] at h2;obtain ⟨z',hz'⟩:∃z',l[i]?=some z':=⟨l[i]'zo,List.getElem?_eq_getElem zo⟩;rw [hz'] at h2;simp only [Option.map_some,Option.some.injEq,DataW.lit.injEq,Lit.int.injEq,true_and] at h2;rw [List.getElem?_eq_getElem zo,hz,List.getElem?_map,hz',h2];rfl
   rw [List.getElem?_eq_none zo,List.getElem?_eq_none (by simp;omega)]
  cases h
theorem bw {P:Program}{W:World}{nme:String}{g:Nat}{cs:Array Value}(hg:P.globalNamed nme=some g)(hv:W.var? P nme=some cs):∃e fz,W.heap[g]?=some (.cells cs e fz):=by
 unfold World.var? at hv;rw [hg] at hv;simp only [Option.bind_some] at hv;split at hv
 ·rename_i cs' e fz h;injection hv with hv
  subst hv;exact ⟨e,fz,h⟩
 cases hv
theorem up_u (nm:Nat→Nat)(k:IntKind)(l:List Int):(GK.u k l).map (up nm)=GK.u k l:=by
 unfold GK.u;rw [List.map_map];exact List.map_congr_left fun z _=>rfl
def dN:List (String×DataW Unit):=Rows.sdpSlacksRow.laid
def lJ (i:Nat):String:=match dN[i]? with|some x=>x.1|none=> ""
theorem g32:Tryz.prog.globalNamed (lJ 0)=some 4:=by kernel_rfl
theorem g64:Tryz.prog.globalNamed (lJ 1)=some 1:=by kernel_rfl
theorem g10:Tryz.prog.globalNamed (lJ 2)=some 0:=by kernel_rfl
def zem (t:TypeId)(n:Nat)(k:IntKind):Prop:=∃e,Tryz.prog.underlying t=some (.array n e)∧Tryz.prog.underlying e=some (.int k)∧Tryz.prog.cellsOf e=1∧Tryz.prog.cellsOf t=n
theorem pD {W:World}{nme:String}{g t fuel:Nat}{k:IntKind}{l:List Int}{cs:Array Value}{p:List MemPlace}(hg:Tryz.prog.globalNamed nme=some g)(hvar:W.var? Tryz.prog nme=some cs)(hT:zem t n k)
  (hd:DataW.trod (fun _=>()) Tryz.prog W 0 (fun _=>true) false fuel t cs.toList=some (.agg (l.map fun z=>.lit (.int k z)),p)):hv (wH W) (nm g)=some (.ro (GK.u k l)):=by
 obtain ⟨e,h1,h2,h3,h4⟩:=hT;have hc:=km h1 h2 h3 h4 hd;obtain ⟨e',fz,hb⟩:=bw hg hvar;have:=gJ hb;rw [this,hc];show some (BF.ro ((GK.u k l).map (up nm)))=_;rw [up_u]
theorem ty32:(Tryz.prog.globals[4]?).map (·.type)=some 297:=by kernel_rfl
theorem ty64:(Tryz.prog.globals[1]?).map (·.type)=some 288:=by kernel_rfl
theorem ty10:(Tryz.prog.globals[0]?).map (·.type)=some 269:=by kernel_rfl
theorem zl8:zem 297 32 .u8:=⟨5,by kernel_rfl,by kernel_rfl,by kernel_rfl,by kernel_rfl⟩
theorem zl7:zem 288 64 .u8:=⟨5,by kernel_rfl,by kernel_rfl,by kernel_rfl,by kernel_rfl⟩
theorem zl9:zem 269 20 .u64:=⟨164,by kernel_rfl,by kernel_rfl,by kernel_rfl,by kernel_rfl⟩
theorem zc3 {W:World}(h:laidMet Tryz.prog dN W):GK.G (hv (wH W)):=by
 obtain ⟨ps,hL,_,_⟩:=h;obtain ⟨g1,t1,cs1,fu1,p1,q1,e1,u1,v1,d1,hL,_⟩:=hL;obtain ⟨g2,t2,cs2,fu2,p2,q2,e2,u2,v2,d2,hL,_⟩:=hL;obtain ⟨g3,t3,cs3,fu3,p3,q3,e3,u3,v3,d3,_,_⟩:=hL;obtain rfl:=Option.some.inj (g32.symm.trans e1);obtain rfl:=Option.some.inj (g64.symm.trans e2);obtain rfl:=Option.some.inj (g10.symm.trans e3);obtain rfl:=Option.some.inj (ty32.symm.trans u1);obtain rfl:=Option.some.inj (ty64.symm.trans u2);obtain rfl:=Option.some.inj (ty10.symm.trans u3);exact ⟨pD e2 v2 zl7 d2,pD e3 v3 zl9 d3,pD e1 v1 zl8 d1⟩
theorem zeo {enc:TypeId×Value→H}{W:World}{d:DataW H}{p:List MemPlace}(ht:Tryz.prog.underlying t=some (.slice e))(he:Tryz.prog.underlying e=some (.int .i64))(hc:Tryz.prog.cellsOf e=1)
  (hok:Value.okWide Tryz.prog W .any base t v)(h:DataW.Trod enc Tryz.prog W 0 (fun _=>true) true t v d p)(hn:W.heap.size≤n):∃(a:Option Addr) (l c:Nat) (L:List Int),(∀ad,a=some ad→ad.spot=none)∧v=.slice a l c∧up nm v=.slice (a.map fun x=>⟨nm x.block,x.off,x.spot⟩) l c∧Sl (hv (wH W)) n 1 (up nm v) (L.map (Value.int .i64)):=by
 obtain ⟨fuel,h⟩:=h;rcases open_ints ht he hc h with ⟨hcs,_⟩|⟨a,len,cap,zs,hcs,_,hle,_,hzl,_,hcell,_⟩
 ·have hvv:v=.slice none 0 0:=by
   cases v<;>simp [Value.cells] at hcs ⊢
   ·exact hcs
   rename_i cs;unfold Value.okWide at hok;rw [ht] at hok;simp [Cell.okWide,Cell.ok,ht] at hok
  subst hvv;exact ⟨none,0,0,[],(fun ad h=>by cases h),rfl,rfl,.nil (.inl rfl)⟩
 have hvv:v=.slice (some a) len cap:=by
  cases v<;>simp [Value.cells] at hcs ⊢
  ·exact hcs
  rename_i cs;unfold Value.okWide at hok;rw [ht] at hok;simp [Cell.okWide,Cell.ok,ht] at hok
 subst hvv;obtain ⟨b,off,spot⟩:=a;have hspot:spot=none∧∃c e fz,W.heap[b]?=some (.cells c e fz):=by
  unfold Value.okWide at hok;rw [ht] at hok;simp only [Cell.okWide,Cell.ok,ht,World.has] at hok;obtain ⟨_,_,_,h1,row,cells,h2,_⟩:=hok;refine ⟨h1,?_⟩;unfold World.shape? at h2;split at h2
  ·exact ⟨_,_,_,by assumption⟩
  cases h2
 obtain ⟨rfl,c,e',fz,hb⟩:=hspot;have hbs:b<W.heap.size:=by
  rcases Nat.lt_or_ge b W.heap.size with h'|h'
  ·exact h'
  rw [Array.getElem?_eq_none h'] at hb;cases hb
 refine ⟨some ⟨b,off,none⟩,len,cap,zs.take len,(fun ad h=>by injection h with h;rw [←h]),rfl,rfl,?_⟩;by_cases h0:len=0
 ·subst h0;rw [List.take_zero];exact .nil (.inr ⟨nm b,off,none,rfl,zh8 zo⟩)
 have hzl':zs.length=cap:=by simpa using hzl
 have hcc:∀i,i<cap→c[off+i]?=some (.int .i64 (zs.getD i 0)):=fun i hi=>by
  have:=hcell i zo;unfold World.cell? at this;have e1:(Addr.add ⟨b,off,none⟩ i).block=b:=by unfold Addr.add;split<;>rfl
  have e2:(Addr.add ⟨b,off,none⟩ i).off=off+i:=by unfold Addr.add;split<;>simp_all
  have e3:(Addr.add ⟨b,off,none⟩ i).spot=none:=by unfold Addr.add;split<;>rfl
  rw [e1,hb] at this;simp only [e2,e3] at this;simpa using this
 have hsz:off+cap≤c.size:=by
  have h1:=hcc (cap-1) zo;rcases Nat.lt_or_ge (off+(cap-1)) c.size with h'|h'
  ·omega
  rw [Array.getElem?_eq_none h'] at h1;cases h1
 refine .at_ (zh8 (show b<n by omega)) (gJ hb) rfl hle (by simp;omega) ?_;rw [Nat.mul_one];apply List.ext_getElem?;intro i;by_cases hi:i<len
 ·rw [List.getElem?_take_of_lt hi,List.getElem?_drop,List.getElem?_map,Array.getElem?_toList,hcc i zo];rw [List.getElem?_map,List.getElem?_take_of_lt hi];have:zs.getD i 0=zs[i]'zo:=by simp [show i<zs.length from zo]
  rw [this,List.getElem?_eq_getElem zo];rfl
 rw [List.getElem?_eq_none (by simp;omega),List.getElem?_eq_none (by simp;omega)]
end
section
set_option maxRecDepth 100000
mutual
theorem bulk_pos {H:Type}:∀d:DataW H,1≤Rows.uptoBulk d
 | .lit (.string b)=>by simp [Rows.uptoBulk]
 | .lit (.bool b)=>by simp [Rows.uptoBulk]
 | .lit (.int k b)=>by simp [Rows.uptoBulk]
 | .lit (.float k b)=>by simp [Rows.uptoBulk]
 | .lit .nil=>by simp [Rows.uptoBulk]
 | .nil=>by simp [Rows.uptoBulk]
 | .ptr d=>by simp [Rows.uptoBulk]
 | .slice _ _=>by simp [Rows.uptoBulk]
 | .agg _=>by simp [Rows.uptoBulk]
 | .iface _ d=>by simp [Rows.uptoBulk]
 | .map _=>by simp [Rows.uptoBulk]
 | .held _=>by simp [Rows.uptoBulk]
end
section
variable {H:Type}{enc:TypeId×Value→H}{W:World}{held:Bool}
end
end
end Go.Proofs.YtfajmfoofmienaaGreatDoor
namespace Go.Proofs.YtfajmfoofmienaaGreatDoor
open Go Go.GL
section
end
structure KR (h:HF)(n:Nat)(v:Value)(K:List (List Int)):Prop where
 at_:∃cs:List Value,Sl h n 1 v cs∧cs.length=K.length∧∀(j:Nat) (L:List Int),K[j]?=some L→∃(a:Option Addr) (c:Nat),cs[j]?=some (Value.slice a L.length c)∧Sl h n 1 (.slice a L.length c) (i64s L)
inductive MatR (h:HF) (n:Nat):List Value→List (Int×Int×List (List UInt8))→Prop
 |nil:MatR h n [] []
 |cons {r c:Int} {v:Value} {E:List (List UInt8)} {cs:List Value} {ms:List (Int×Int×List (List UInt8))} (h1:Sl h n 1 v (strs E)) (h2:MatR h n cs ms):MatR h n (.int .i64 r:: .int .i64 c::v::cs) ((r,c,E)::ms)
structure MI (h:HF)(n lo bF:Nat)(ty:TypeId)(vM:Value)(ce:List Value)(ms:List (Int×Int×List (List UInt8))):Prop where
 gro:Gro h lo n ty 3 vM ms.length ce
 mat:MatR h n ce ms
 los:∀v∈ce,Pt (fun b=>3*lo≤b) v
 ne:∀v∈ce,∀b o l c,vM=.slice (some ⟨b,o,none⟩) l c→Pt (fun b'=>b'≠b) v
 cell:∃e,h bF=some (.row [vM] e)
end Go.Proofs.YtfajmfoofmienaaGreatDoor
namespace Go.Proofs.YtfajmfoofmienaaGreatDoor
open Go Go.GL Go.ChangeShapes Go.WideShapes Go.RowKit
section
set_option maxRecDepth 100000
section
variable {H:Type}{enc:TypeId×Value→H}{W:World}{held:Bool}
end
end
section
set_option maxRecDepth 100000
theorem own:ownKnob Tryz.prog.godebug=none:=by kernel_rfl
theorem zio:laidOutB Tryz.prog=true:=by kernel_rfl
def lH (c:Array Value):Obj→Obj
 | .cells _ t frozen=>.cells c t frozen
 |o=>o
noncomputable def jj (os:Os):World:=
 {World.holding Tryz.prog os ⟨#[],#[],[]⟩ with heap:=(((World.holding Tryz.prog os ⟨#[],#[],[]⟩).heap.modify 1 (lH GK.d64.toArray)).modify 0 (lH GK.p10.toArray)).modify 4 (lH GK.d32.toArray)}
theorem lI (os:Os)(args:Array Value):laidMet Tryz.prog dN ((jj os).forCall (fun _ _=>0) ⟨#[],args,[]⟩).memory:=
 laidMet_of_run' 8 (by kernel_rfl) (by kernel_rfl)
end
end Go.Proofs.YtfajmfoofmienaaGreatDoor
