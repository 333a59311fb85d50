import Derived.Below
import Derived.Test.YtdcfbgmbaniglaaGreatDoorRows
import Derived.ChangeSame
import Derived.ChangeVars
import Derived.ChangeSlices
import Derived.JoinedOf
import Derived.RowKit
import Derived.RowKitTokens
import Derived.LaidLaws
import Derived.Carry
import Derived.Handed
import Derived.Deep.Slices
import Derived.Test.YtdcfbgmbaniglaaGreatDoorTie
import Derived.Test.YtdcfbgmbaniglaaGreatDoorCards
import Derived.Test.YtdcfbgmbaniglaaGreatDoorExtE
set_option maxHeartbeats 8000000
set_option linter.unusedVariables false
set_option linter.unusedSimpArgs false
namespace Go.Proofs.YtdcfbgmbaniglaaGreatDoor
open Go Go.GL
variable {B m b i j n l:Nat}{L:List Nat}{s:List UInt8}{h:HF}{ρ ρ':Ren}{e:TypeId}
section
variable {i j n:Nat}{α:Type}{h:HF}{v:Value}{ds:List SideD}{ao:Option Addr}
theorem zgj {p:LPD}{lo hi:List UInt8}(h:∀i,i<j→∀lo hi,p.lower[i]?=some lo→p.upper[i]?=some hi→pairOk lo hi)(h1:p.lower[j]?=some lo)(h2:p.upper[j]?=some hi)(hp:pairOk lo hi):∀i,i<j+1→∀lo hi,p.lower[i]?=some lo→p.upper[i]?=some hi→pairOk lo hi:=by
 intro i hi2 lo2 hi3 h3 h4
 by_cases e:i=j
 ·subst e
  rw [h1] at h3
  rw [h2] at h4
  injection h3 with h3
  injection h4 with h4
  subst h3 h4
  exact hp
 exact h i zo lo2 hi3 h3 h4
theorem ke {l:List α}{P:α→Prop}{r:α}(h:∀r∈l.take i,P r)(h1:l[i]?=some r)(hp:P r):∀r∈l.take (i+1),P r:=by
 intro r2 hr
 rw [yV h1] at hr
 rcases List.mem_append.1 hr with h'|h'
 ·exact h r2 h'
 rw [List.mem_singleton.1 h'];exact hp
theorem GSL.lo {lo lo':Nat}(g:GSL lo h n v ds)(hl:lo'≤lo):GSL lo' h n v ds:=by
 obtain ⟨C,h1,h2,h3⟩:=g.ex
 refine ⟨C,?_,h2.mono fun c d s=>s.lo hl,h3⟩
 generalize ds.length=m at h1 ⊢
 cases h1 with
 |nil=>exact .nil
 |at_ hg hlo hb hr hl2 ho=>exact .at_ hg zo hb hr hl2 ho
theorem ziy (k:Nat)(g:GG h n){lo co:Nat}{ar:Option Addr}{lr cr:Nat}{aw:Option Addr}{lw cw:Nat}{au:Option Addr}{lu cu:Nat}{p:LPD}(io:Sl h n 1 (.slice ao lo co) (strs p.obj))(ir:RWS h n (.slice ar lr cr) p.rows)(iw:Sl h n 1 (.slice aw lw cw) (strs p.lower))(iu:Sl h n 1 (.slice au lu cu) (strs p.upper)){a:Nat}(hp:LPB a p)(ha:a+a≤2000):CX (cal (k+12)) 21 [.agg #[.slice ao lo co,.slice ar lr cr,.slice aw lw cw,.slice au lu cu]] h n fun v h' n'=>∃aO lO kO aR lR kR aC lC kC ok,v=.tuple #[.agg #[.slice aO lO kO,.slice aR lR kR,.slice aC lC kC],.bool ok]∧(ok=true↔VLP p)∧(ok=true→QSL n h' n' (.slice aO lO kO) (p.obj.map zk)∧GSL n h' n' (.slice aR lR kR) (rE p)∧GSL n h' n' (.slice aC lC kC) (xQ p)):=by
 have lo1:=wz io
 have lr1:=ir.len
 have lw1:=wz iw
 have lu1:=wz iu
 obtain ⟨hob,hlw,hup,hrl,hn1,hn2,hn3,hn4⟩:=hp
 refine zv (fn:=Tryz.f21) R4 ?_
 refine zG ?_
 refine sB [.slice ao lo co,.slice ar lr cr,.slice aw lw cw,.slice au lu cu] ?_
 intro h11 p11 x11
 refine sA ?_
 intro h12 p12 x12
 refine zG ?_
 by_cases q13:(lo:Int)<1
 ·refine zG ?_
  refine sT #[.slice none 0 0,.slice none 0 0,.slice none 0 0] ?_
  refine sS [.slice none 0 0,.slice none 0 0,.slice none 0 0] ?_
  intro h14 p14 o14
  refine zq ?_
  exact ⟨_,_,_,_,_,_,_,_,_,_,rfl,⟨fun hq=>(by cases hq),fun hv=>by have:=hv.n1;have:=hv.n2;have:=hv.ll;have:=hv.lu;have:=hv.lr;omega⟩,fun hq=>(by cases hq)⟩
 refine zG ?_
 by_cases q15:(lo:Int)>64
 ·refine zG ?_
  refine sT #[.slice none 0 0,.slice none 0 0,.slice none 0 0] ?_
  refine sS [.slice none 0 0,.slice none 0 0,.slice none 0 0] ?_
  intro h16 p16 o16
  refine zq ?_
  exact ⟨_,_,_,_,_,_,_,_,_,_,rfl,⟨fun hq=>(by cases hq),fun hv=>by have:=hv.n1;have:=hv.n2;have:=hv.ll;have:=hv.lu;have:=hv.lr;omega⟩,fun hq=>(by cases hq)⟩
 refine zG ?_
 by_cases q17:(lw:Int)=(lo:Int)
 ·refine zG ?_
  by_cases q18:(lu:Int)=(lo:Int)
  ·refine zG ?_
   by_cases q19:(lr:Int)>64
   ·refine zG ?_
    refine sT #[.slice none 0 0,.slice none 0 0,.slice none 0 0] ?_
    refine sS [.slice none 0 0,.slice none 0 0,.slice none 0 0] ?_
    intro h20 p20 o20
    refine zq ?_
    exact ⟨_,_,_,_,_,_,_,_,_,_,rfl,⟨fun hq=>(by cases hq),fun hv=>by have:=hv.n1;have:=hv.n2;have:=hv.ll;have:=hv.lu;have:=hv.lr;omega⟩,fun hq=>(by cases hq)⟩
   refine zG ?_
   refine sC (oq _ (g.x zx) (io.x zx) (fun s hs=>(hob s hs).1) hn1) ?_
   rintro _ h21 n21 ⟨a21,l21,c21,ok21,rfl,bm21,q21⟩ y21 x21
   rcases bvs bm21 with ⟨rfl,m21⟩|⟨rfl,m21⟩
   ·refine zG ?_
    refine sT #[.slice none 0 0,.slice none 0 0,.slice none 0 0] ?_
    refine sS [.slice none 0 0,.slice none 0 0,.slice none 0 0] ?_
    intro h22 p22 o22
    refine zq ?_
    exact ⟨_,_,_,_,_,_,_,_,_,_,rfl,⟨fun hq=>(by cases hq),fun hv=>absurd hv.ob m21⟩,fun hq=>(by cases hq)⟩
   have i21:=q21 rfl
   have w21:=i21.1.len
   rw [List.length_map] at w21
   refine zG ?_
   refine sT #[.slice a21 l21 c21,.slice none 0 0,.slice none 0 0] ?_
   refine sA ?_
   intro h23 p23 x23
   refine sS [.slice a21 l21 c21,.slice none 0 0,.slice none 0 0] ?_
   intro h24 p24 o24
   refine zG ?_
   refine sF (α:=Nat×Option Addr×Nat×Nat) (fun z=>[(1,.pointer (some ⟨3*n+2,0,none⟩)),(2,.pointer (some ⟨3*(n+1)+2,0,none⟩)),(4,.int .i64 (lo:Int)),(7,.pointer (some ⟨3*n21+2,0,none⟩)),(58,.int .i64 (lo:Int)),(59,.int .i64 (z.1:Int))]) (fun z h' n' w'=>w'=[]∧n21+1≤n'∧ExtB (n21+1) [3*n21+2] h24 h'∧h' (3*n21+2)=some (.row [.slice a21 l21 c21,.slice none 0 0,.slice z.2.1 z.2.2.1 z.2.2.2] 57)∧GSL (n21+1) h' n' (.slice z.2.1 z.2.2.1 z.2.2.2) ((xQ p).take z.1)∧z.1≤p.obj.length∧∀i,i<z.1→∀lo hi,p.lower[i]?=some lo→p.upper[i]?=some hi→pairOk lo hi) (fun z=>p.obj.length-z.1) (0,none,0,0) ⟨rfl,Nat.le_refl _,ExtB.refl _ _ _,p24,GSL.nil _ _ _,(Nat.zero_le _),(fun i hi=>absurd hi (Nat.not_lt_zero _))⟩ ?_
   rintro ⟨j,aC,lC,kC⟩ t h25 n25 _ ⟨rfl,y25,Y25,p25_0,i25_0_0,hj,hbd⟩
   have p25_0:h25 (3*n21+2)=some (.row [.slice a21 l21 c21,.slice none 0 0,.slice aC lC kC] 57):=p25_0
   have i25_0_0:GSL (n21+1) h25 n25 (.slice aC lC kC) ((xQ p).take j):=i25_0_0
   have hj:j≤p.obj.length:=hj
   have hbd:∀i,i<j→∀lo hi,p.lower[i]?=some lo→p.upper[i]?=some hi→pairOk lo hi:=hbd
   refine zG ?_
   by_cases q26:(j:Int)<(lo:Int)
   ·refine zG ?_
    refine zu [0,1,0,7,15,0,32,0,224,480,1023,2047,4095,4095,0,24575,65535] rfl ?_
    refine zH ?_
    obtain ⟨d27,g27⟩:∃d,(p.lower)[j]?=some d:=⟨_,List.getElem?_eq_getElem zo⟩
    obtain ⟨k27,o27,e27,m27,r27,t27⟩:=wm iw g27
    refine dI e27 r27 ?_
    refine dL t27 m27 0 ?_
    refine zH ?_
    obtain ⟨d28,g28⟩:∃d,(p.upper)[j]?=some d:=⟨_,List.getElem?_eq_getElem zo⟩
    obtain ⟨k28,o28,e28,m28,r28,t28⟩:=wm iu g28
    refine dI e28 r28 ?_
    refine dL t28 m28 0 ?_
    refine dC (nQ _ (g.x zx) (hlw _ (List.mem_of_getElem? g27)).1 (hup _ (List.mem_of_getElem? g28)).1 (hlw _ (List.mem_of_getElem? g27)).2 (hup _ (List.mem_of_getElem? g28)).2 zo) ?_
    rintro _ h29 n29 ⟨ex29,b29,a29,l29,c29,d29,e29,f29,g29,ex29_2,b29_2,a29_2,l29_2,c29_2,d29_2,e29_2,f29_2,g29_2,ok29,rfl,bm29,q29⟩ y29 x29
    rcases bvs bm29 with ⟨rfl,m29⟩|⟨rfl,m29⟩
    ·refine zH ?_
     refine dB [.slice none 0 0,.bool false,.bool false,.slice none 0 0,.bool false,.slice none 0 0,.bool false,.bool false,.slice none 0 0,.bool false,.slice none 0 0] ?_
     intro h30 p30 x30
     refine dS [.slice none 0 0,.bool ex29,.bool b29,.slice a29 l29 c29,.bool d29,.slice e29 f29 g29,.bool ex29_2,.bool b29_2,.slice a29_2 l29_2 c29_2,.bool d29_2,.slice e29_2 f29_2 g29_2] ?_
     intro h31 p31 o31
     refine zJ ?_
     refine sT #[.slice none 0 0,.slice none 0 0,.slice none 0 0] ?_
     refine sS [.slice none 0 0,.slice none 0 0,.slice none 0 0] ?_
     intro h32 p32 o32
     have i33:=(i21.x zx).sto o32 zo
     have i34:=(i25_0_0.x zx).sto o32 zo
     refine zq ?_
     exact ⟨_,_,_,_,_,_,_,_,_,_,rfl,⟨fun hq=>(by cases hq),fun hv=>absurd (hv.bd _ _ _ g27 g28) m29⟩,fun hq=>(by cases hq)⟩
    obtain ⟨v29,i29,j29,v29_2,i29_2,j29_2⟩:=q29 rfl
    refine zH ?_
    refine dB [.slice none 0 0,.bool false,.bool false,.slice none 0 0,.bool false,.slice none 0 0,.bool false,.bool false,.slice none 0 0,.bool false,.slice none 0 0] ?_
    intro h35 p35 x35
    refine dS [.slice none 0 0,.bool ex29,.bool b29,.slice a29 l29 c29,.bool d29,.slice e29 f29 g29,.bool ex29_2,.bool b29_2,.slice a29_2 l29_2 c29_2,.bool d29_2,.slice e29_2 f29_2 g29_2] ?_
    intro h36 p36 o36
    refine zJ ?_
    refine wG [.slice none 0 0,.bool ex29,.bool b29,.slice a29 l29 c29,.bool d29,.slice e29 f29 g29,.bool ex29_2,.bool b29_2,.slice a29_2 l29_2 c29_2,.bool d29_2,.slice e29_2 f29_2 g29_2] (l:=1) (c:=1) R5 ?_
    intro h37 p37 x37
    have s38:vR (n21+1) [.slice none 0 0,.bool ex29,.bool b29,.slice a29 l29 c29,.bool d29,.slice e29 f29 g29,.bool ex29_2,.bool b29_2,.slice a29_2 l29_2 c29_2,.bool d29_2,.slice e29_2 f29_2 g29_2] (⟨[],d27,d28⟩) h37 (n29+1+1):=⟨_,_,_,_,_,_,_,_,_,_,_,_,_,_,_,_,_,_,_,_,_,rfl,QSL.nil _ _ _,v29,(i29.t zt),(j29.t zt),v29_2,(i29_2.t zt),(j29_2.t zt)⟩
    obtain ⟨C38,gr38,rc38,nu38⟩:=((i25_0_0.x (h':=h37) (n':=n29+1+1) zx)).ex
    have ph38:h37 (3*(n29+1)+2)=_:=p37
    refine jP (lo:=(n21+1)) (m:=1) R8 ⟨Nat.le_of_ble_eq_true rfl,Nat.le_of_ble_eq_true rfl⟩ gr38 (yC ph38 R2) (Nat.le_refl _) (by rw [List.length_take];omega) rfl rfl ⟨by show n≤_;omega,zo⟩ ?_
    intro v38 h38 gg38 x38 k38
    have G38:=GSL.app gr38 rc38 nu38 s38 k38 gg38
    obtain ⟨a38,es38,_⟩:=gg38.shape
    subst es38
    replace x38:Exa (n21+1) _ _:=⟨x38⟩
    have p39:h38 (3*n+2)=_:=(k38.blk gr38 (zA _) zo).trans zp
    have p40:h38 (3*(n+1)+2)=_:=(k38.blk gr38 (zA _) zo).trans zp
    have p41:h38 (3*n21+2)=_:=(k38.blk gr38 (zA _) zo).trans zp
    have p42:h38 (3*n29+2)=_:=(k38.blk gr38 (zA _) zo).trans zp
    have p43:h38 (3*(n29+1)+2)=_:=(k38.blk gr38 (zA _) zo).trans zp
    refine zG ?_
    refine sS (b:=3*n21+2) (off:=2) [.slice a21 l21 c21,.slice none 0 0,.slice a38 (((xQ p).take j).length+1) (((xQ p).take j).length+1)] ?_
    intro h44 p44 o44
    have i45:=G38.sto o44 zo
    refine zG ?_
    exact sK (j+1,a38,(((xQ p).take j).length+1),(((xQ p).take j).length+1)) ⟨rfl,zo,zy,p44,((yV (qO g27 g28)).symm▸i45),(by show j+1≤p.obj.length;omega),(zgj hbd g27 g28 m29)⟩
   refine zG ?_
   have hje:j=p.obj.length:=zo
   have hcols:GSL (n21+1) h25 n25 (.slice aC lC kC) (xQ p):=by have hq:=i25_0_0;rw [List.take_of_length_le (by unfold xQ;rw [List.length_zipWith];omega)] at hq;exact hq
   refine zG ?_
   have pcol:h25 (3*n21+2)=_:=p25_0
   refine sF (α:=Nat×Option Addr×Nat×Nat) (fun z=>[(2,.pointer (some ⟨3*(n+1)+2,0,none⟩)),(4,.int .i64 (lo:Int)),(7,.pointer (some ⟨3*n21+2,0,none⟩)),(87,.slice ar lr cr),(88,.int .i64 (lr:Int)),(89,.int .i64 (z.1:Int))]) (fun z h' n' w'=>w'=[]∧n25≤n'∧ExtB n25 [3*n21+2] h25 h'∧h' (3*n21+2)=some (.row [.slice a21 l21 c21,.slice z.2.1 z.2.2.1 z.2.2.2,.slice aC lC kC] 57)∧GSL n25 h' n' (.slice z.2.1 z.2.2.1 z.2.2.2) ((rE p).take z.1)∧z.1≤p.rows.length∧∀r∈p.rows.take z.1,pairOk r.lo r.hi∧(∀s∈r.A,wi s)∧r.A.length=p.obj.length) (fun z=>p.rows.length-z.1) (0,none,0,0) ⟨rfl,Nat.le_refl _,ExtB.refl _ _ _,p25_0,GSL.nil _ _ _,(Nat.zero_le _),(fun r hr=>absurd hr (by simp))⟩ ?_
   rintro ⟨i,aR,lR,kR⟩ t h46 n46 _ ⟨rfl,y46,Y46,p46_0,i46_0_0,hi,hrw⟩
   have p46_0:h46 (3*n21+2)=some (.row [.slice a21 l21 c21,.slice aR lR kR,.slice aC lC kC] 57):=p46_0
   have i46_0_0:GSL n25 h46 n46 (.slice aR lR kR) ((rE p).take i):=i46_0_0
   have hi:i≤p.rows.length:=hi
   have hrw:∀r∈p.rows.take i,pairOk r.lo r.hi∧(∀s∈r.A,wi s)∧r.A.length=p.obj.length:=hrw
   refine zG ?_
   by_cases q47:(i:Int)<(lr:Int)
   ·refine zG ?_
    obtain ⟨d48,g48⟩:∃d,(p.rows)[i]?=some d:=⟨_,List.getElem?_eq_getElem zo⟩
    obtain ⟨k48,o48,a48,l48,c48,e48,m48,r48,t48,i48⟩:=RWS.at ir g48
    have la48:=wz i48
    refine sI e48 r48 ?_
    refine sL t48 m48 0 ?_
    refine sA ?_
    intro h49 p49 x49
    refine sS [.slice a48 l48 c48,.string ⟨⟨d48.lo⟩⟩,.string ⟨⟨d48.hi⟩⟩] ?_
    intro h50 p50 o50
    refine zG ?_
    refine sC (nQ _ (g.x zx) (hrl _ (List.mem_of_getElem? g48)).1.1 (hrl _ (List.mem_of_getElem? g48)).2.1.1 (hrl _ (List.mem_of_getElem? g48)).1.2 (hrl _ (List.mem_of_getElem? g48)).2.1.2 zo) ?_
    rintro _ h51 n51 ⟨ex51,b51,a51,l51,c51,d51,e51,f51,g51,ex51_2,b51_2,a51_2,l51_2,c51_2,d51_2,e51_2,f51_2,g51_2,ok51,rfl,bm51,q51⟩ y51 x51
    rcases bvs bm51 with ⟨rfl,m51⟩|⟨rfl,m51⟩
    ·refine zG ?_
     refine sA ?_
     intro h52 p52 x52
     refine sS [.slice none 0 0,.bool ex51,.bool b51,.slice a51 l51 c51,.bool d51,.slice e51 f51 g51,.bool ex51_2,.bool b51_2,.slice a51_2 l51_2 c51_2,.bool d51_2,.slice e51_2 f51_2 g51_2] ?_
     intro h53 p53 o53
     refine zG ?_
     refine sC (oq _ (g.x zx) (i48.x zx) (fun s hs=>((hrl _ (List.mem_of_getElem? g48)).2.2.2 s hs).1) (hrl _ (List.mem_of_getElem? g48)).2.2.1) ?_
     rintro _ h54 n54 ⟨a54,l54,c54,ok54,rfl,bm54,q54⟩ y54 x54
     rcases bvs bm54 with ⟨rfl,m54⟩|⟨rfl,m54⟩
     ·refine zG ?_
      refine sT #[.slice none 0 0,.slice none 0 0,.slice none 0 0] ?_
      refine sS [.slice none 0 0,.slice none 0 0,.slice none 0 0] ?_
      intro h55 p55 o55
      have i56:=(i21.x zx).sto o55 zo
      have i57:=(i46_0_0.x zx).sto o55 zo
      refine zq ?_
      exact ⟨_,_,_,_,_,_,_,_,_,_,rfl,⟨fun hq=>(by cases hq),fun hv=>absurd (hv.rw _ (List.mem_of_getElem? g48)).1 m51⟩,fun hq=>(by cases hq)⟩
     have i54:=q54 rfl
     have w54:=i54.1.len
     rw [List.length_map] at w54
     refine zG ?_
     refine sT #[.slice none 0 0,.slice none 0 0,.slice none 0 0] ?_
     refine sS [.slice none 0 0,.slice none 0 0,.slice none 0 0] ?_
     intro h58 p58 o58
     have i59:=(i21.x zx).sto o58 zo
     have i60:=(i46_0_0.x zx).sto o58 zo
     have i61:=i54.sto o58 zo
     refine zq ?_
     exact ⟨_,_,_,_,_,_,_,_,_,_,rfl,⟨fun hq=>(by cases hq),fun hv=>absurd (hv.rw _ (List.mem_of_getElem? g48)).1 m51⟩,fun hq=>(by cases hq)⟩
    obtain ⟨v51,i51,j51,v51_2,i51_2,j51_2⟩:=q51 rfl
    refine zG ?_
    refine sA ?_
    intro h62 p62 x62
    refine sS [.slice none 0 0,.bool ex51,.bool b51,.slice a51 l51 c51,.bool d51,.slice e51 f51 g51,.bool ex51_2,.bool b51_2,.slice a51_2 l51_2 c51_2,.bool d51_2,.slice e51_2 f51_2 g51_2] ?_
    intro h63 p63 o63
    refine zG ?_
    refine sC (oq _ (g.x zx) (i48.x zx) (fun s hs=>((hrl _ (List.mem_of_getElem? g48)).2.2.2 s hs).1) (hrl _ (List.mem_of_getElem? g48)).2.2.1) ?_
    rintro _ h64 n64 ⟨a64,l64,c64,ok64,rfl,bm64,q64⟩ y64 x64
    rcases bvs bm64 with ⟨rfl,m64⟩|⟨rfl,m64⟩
    ·refine zG ?_
     refine sT #[.slice none 0 0,.slice none 0 0,.slice none 0 0] ?_
     refine sS [.slice none 0 0,.slice none 0 0,.slice none 0 0] ?_
     intro h65 p65 o65
     have i66:=(i21.x zx).sto o65 zo
     have i67:=(i46_0_0.x zx).sto o65 zo
     refine zq ?_
     exact ⟨_,_,_,_,_,_,_,_,_,_,rfl,⟨fun hq=>(by cases hq),fun hv=>absurd (hv.rw _ (List.mem_of_getElem? g48)).2.1 m64⟩,fun hq=>(by cases hq)⟩
    have i64:=q64 rfl
    have w64:=i64.1.len
    rw [List.length_map] at w64
    refine zG ?_
    by_cases q68:(l64:Int)=(lo:Int)
    ·refine zG ?_
     refine sS [.slice a64 l64 c64,.bool ex51,.bool b51,.slice a51 l51 c51,.bool d51,.slice e51 f51 g51,.bool ex51_2,.bool b51_2,.slice a51_2 l51_2 c51_2,.bool d51_2,.slice e51_2 f51_2 g51_2] ?_
     intro h69 p69 o69
     have i70:=i64.sto o69 zo
     refine zG ?_
     refine wG [.slice a64 l64 c64,.bool ex51,.bool b51,.slice a51 l51 c51,.bool d51,.slice e51 f51 g51,.bool ex51_2,.bool b51_2,.slice a51_2 l51_2 c51_2,.bool d51_2,.slice e51_2 f51_2 g51_2] (l:=1) (c:=1) R5 ?_
     intro h71 p71 x71
     have s72:vR (n25) [.slice a64 l64 c64,.bool ex51,.bool b51,.slice a51 l51 c51,.bool d51,.slice e51 f51 g51,.bool ex51_2,.bool b51_2,.slice a51_2 l51_2 c51_2,.bool d51_2,.slice e51_2 f51_2 g51_2] (rowS d48) h71 (n64+1):=⟨_,_,_,_,_,_,_,_,_,_,_,_,_,_,_,_,_,_,_,_,_,rfl,((i70.x zx)).lo (show n25≤n51+1 by omega),v51,(i51.t zt),(j51.t zt),v51_2,(i51_2.t zt),(j51_2.t zt)⟩
     obtain ⟨C72,gr72,rc72,nu72⟩:=((i46_0_0.x (h':=h71) (n':=n64+1) zx)).ex
     have ph72:h71 (3*n64+2)=_:=p71
     refine jP (lo:=(n25)) (m:=1) R8 ⟨Nat.le_of_ble_eq_true rfl,Nat.le_of_ble_eq_true rfl⟩ gr72 (yC ph72 R2) (Nat.le_refl _) (by rw [List.length_take];omega) rfl rfl ⟨by show n≤_;omega,zo⟩ ?_
     intro v72 h72 gg72 x72 k72
     have G72:=GSL.app gr72 rc72 nu72 s72 k72 gg72
     obtain ⟨a72,es72,_⟩:=gg72.shape
     subst es72
     replace x72:Exa n25 _ _:=⟨x72⟩
     have p73:h72 (3*n+2)=_:=(k72.blk gr72 (zA _) zo).trans zp
     have p74:h72 (3*(n+1)+2)=_:=(k72.blk gr72 (zA _) zo).trans zp
     have p75:h72 (3*n21+2)=_:=(k72.blk gr72 (zA _) zo).trans zp
     have p76:h72 (3*n46+2)=_:=(k72.blk gr72 (zA _) zo).trans zp
     have p77:h72 (3*n51+2)=_:=(k72.blk gr72 (zA _) zo).trans zp
     have p78:h72 (3*n64+2)=_:=(k72.blk gr72 (zA _) zo).trans zp
     refine zG ?_
     refine sS (b:=3*n21+2) (off:=1) [.slice a21 l21 c21,.slice a72 (((rE p).take i).length+1) (((rE p).take i).length+1),.slice aC lC kC] ?_
     intro h79 p79 o79
     have i80:=G72.sto o79 zo
     refine zG ?_
     exact sK (i+1,a72,(((rE p).take i).length+1),(((rE p).take i).length+1)) ⟨rfl,zo,zy,p79,((yV (ca g48)).symm▸i80),(by show i+1≤p.rows.length;omega),(ke hrw g48 ⟨m51,m64,zo⟩)⟩
    refine zG ?_
    refine sT #[.slice none 0 0,.slice none 0 0,.slice none 0 0] ?_
    refine sS [.slice none 0 0,.slice none 0 0,.slice none 0 0] ?_
    intro h81 p81 o81
    have i82:=(i21.x zx).sto o81 zo
    have i83:=(i46_0_0.x zx).sto o81 zo
    have i84:=i64.sto o81 zo
    refine zq ?_
    exact ⟨_,_,_,_,_,_,_,_,_,_,rfl,⟨fun hq=>(by cases hq),fun hv=>absurd (hv.rw _ (List.mem_of_getElem? g48)).2.2 zo⟩,fun hq=>(by cases hq)⟩
   refine zG ?_
   have hie:i=p.rows.length:=zo
   have hrows:GSL n25 h46 n46 (.slice aR lR kR) (rE p):=by have hq:=i46_0_0;rw [List.take_of_length_le (by unfold rE;rw [List.length_map];omega)] at hq;exact hq
   have hcols2:=hcols.extB (n':=n46) (show ExtB n25 [3*n21+2] h25 h46 from zy) zo (by intro b hb;simp only [List.mem_cons,List.not_mem_nil,or_false] at hb;subst hb;exact ⟨zo,_,_,pcol,rfl⟩)
   have hobj:=(i21.x (h':=h46) (n':=n46) zx)
   refine zG ?_
   refine sS [.slice a21 l21 c21,.slice aR lR kR,.slice aC lC kC] ?_
   intro h85 p85 o85
   have i86:=hrows.sto o85 zo
   have i87:=hcols2.sto o85 zo
   have i88:=hobj.sto o85 zo
   have i89:=(i21.x zx).sto o85 zo
   have i90:=i46_0_0.sto o85 zo
   refine zq ?_
   exact ⟨_,_,_,_,_,_,_,_,_,_,rfl,⟨fun _=>⟨zo,zo,zo,zo,zo,m21,fun j2 lo hi h1 h2=>hbd j2 (by have:=(List.getElem?_eq_some_iff.1 h1).1;omega) lo hi h1 h2,by rw [hie,List.take_length] at hrw;exact hrw⟩,fun _=>rfl⟩,fun _=>⟨i88.lo zo,i86.lo zo,i87.lo zo⟩⟩
  refine zG ?_
  refine sT #[.slice none 0 0,.slice none 0 0,.slice none 0 0] ?_
  refine sS [.slice none 0 0,.slice none 0 0,.slice none 0 0] ?_
  intro h91 p91 o91
  refine zq ?_
  exact ⟨_,_,_,_,_,_,_,_,_,_,rfl,⟨fun hq=>(by cases hq),fun hv=>by have:=hv.n1;have:=hv.n2;have:=hv.ll;have:=hv.lu;have:=hv.lr;omega⟩,fun hq=>(by cases hq)⟩
 refine zG ?_
 refine sT #[.slice none 0 0,.slice none 0 0,.slice none 0 0] ?_
 refine sS [.slice none 0 0,.slice none 0 0,.slice none 0 0] ?_
 intro h92 p92 o92
 refine zq ?_
 exact ⟨_,_,_,_,_,_,_,_,_,_,rfl,⟨fun hq=>(by cases hq),fun hv=>by have:=hv.n1;have:=hv.n2;have:=hv.ll;have:=hv.lu;have:=hv.lr;omega⟩,fun hq=>(by cases hq)⟩
end
section
variable {h:HF}{b cx cy lx ly n:Nat}{ax ay:Option Addr}{xs ys:List Rat}
theorem rS {s t x y:Rat}(h:t=s+x*y)(h0:x=0∨y=0):s=t:=by
 rw [h]
 rcases h0 with h0|h0
 ·rw [h0,Rat.zero_mul,Rat.add_zero]
 rw [h0,Rat.mul_zero,Rat.add_zero]
theorem dotQ (k:Nat)(g:GG h n)(ix:QS h n (.slice ax lx cx) xs)(iy:QS h n (.slice ay ly cy) ys){a:Nat}(hxs:∀q∈xs,Sz a q)(hys:∀q∈ys,Sz b q)(hl:xs.length≤ys.length)(hb:xs.length*(a+b+1)+a+b+2≤2496):CX (cal (k+11)) 32 [.slice ax lx cx,.slice ay ly cy] h n (QV (dotR xs (ys.take xs.length))):=by
 have lx1:=ix.len
 have ly1:=iy.len
 have hln:=Nat.le_mul_of_pos_right xs.length (show 0<a+b+1 by omega)
 refine zv (fn:=Tryz.f32) R4 ?_
 refine zG ?_
 refine sA ?_
 intro h11 p11 x11
 refine zG ?_
 refine sA ?_
 intro h12 p12 x12
 refine zG ?_
 refine sF (α:=Nat×Bool×Option Addr×Nat×Nat×Bool×Option Addr×Nat×Nat) (fun z=>[(1,.slice ay ly cy),(4,.pointer (some ⟨3*n+2,0,none⟩)),(5,.pointer (some ⟨3*(n+1)+2,0,none⟩)),(8,.slice ax lx cx),(9,.int .i64 (lx:Int)),(10,.int .i64 (z.1:Int))]) (fun z h' n' w'=>w'=[]∧n+1+1≤n'∧ExtB (n+1+1) [3*(n+1)+2] h12 h'∧h' (3*(n+1)+2)=some (.row [.bool z.2.1,.slice z.2.2.1 z.2.2.2.1 z.2.2.2.2.1,.bool z.2.2.2.2.2.1,.slice z.2.2.2.2.2.2.1 z.2.2.2.2.2.2.2.1 z.2.2.2.2.2.2.2.2] 49)∧IW h' n' z.2.1 z.2.2.1 z.2.2.2.1 z.2.2.2.2.1 ((dotR (xs.take z.1) (ys.take z.1)).num)∧IW h' n' z.2.2.2.2.2.1 z.2.2.2.2.2.2.1 z.2.2.2.2.2.2.2.1 z.2.2.2.2.2.2.2.2 (denZ (dotR (xs.take z.1) (ys.take z.1)))∧z.1≤xs.length) (fun z=>xs.length-z.1) (0,false,none,0,0,false,none,0,0) ⟨rfl,Nat.le_refl _,ExtB.refl _ _ _,p12,(IW.zero _ _).as (by rw [List.take_zero,oQ];rfl),(IW.zero _ _).as (by rw [List.take_zero,oQ];rfl),(Nat.zero_le _)⟩ ?_
 rintro ⟨j,bS,aS,lS,kS,uS,vS,wS,xS⟩ t h13 n13 _ ⟨rfl,y13,Y13,p13_0,i13_0_0,i13_0_1,hj⟩
 have p13_0:h13 (3*(n+1)+2)=some (.row [.bool bS,.slice aS lS kS,.bool uS,.slice vS wS xS] 49):=p13_0
 have i13_0_0:IW h13 n13 bS aS lS kS ((dotR (xs.take j) (ys.take j)).num):=i13_0_0
 have i13_0_1:IW h13 n13 uS vS wS xS (denZ (dotR (xs.take j) (ys.take j))):=i13_0_1
 have hj:j≤xs.length:=hj
 have hjm:j*(a+b+1)≤xs.length*(a+b+1):=Nat.mul_le_mul_right _ hj
 refine zG ?_
 by_cases q14:(j:Int)<(lx:Int)
 ·refine zG ?_
  obtain ⟨d15,g15⟩:∃d,(xs)[j]?=some d:=⟨_,List.getElem?_eq_getElem zo⟩
  obtain ⟨k15,o15,b15,a15,l15,c15,u15,v15,w15,x15,e15,m15,r15,t15,i15,j15⟩:=QS.at ix g15
  refine sI e15 r15 ?_
  refine sL t15 m15 0 ?_
  refine sA ?_
  intro h16 p16 x16
  refine zG ?_
  refine sS [.bool b15,.slice a15 l15 c15,.bool u15,.slice v15 w15 x15] ?_
  intro h17 p17 o17
  refine zG ?_
  refine sC (kG _ (i15.x zx) (j15.x zx)) ?_
  rintro _ h18 n18 ⟨b18,rfl,bq18⟩ y18 x18
  rcases bvs bq18 with ⟨rfl,q18⟩|⟨rfl,q18⟩
  ·refine zG ?_
   obtain ⟨d19,g19⟩:∃d,(ys)[j]?=some d:=⟨_,List.getElem?_eq_getElem zo⟩
   obtain ⟨k19,o19,b19,a19,l19,c19,u19,v19,w19,x19,e19,m19,r19,t19,i19,j19⟩:=QS.at iy g19
   refine sI e19 r19 ?_
   refine sL t19 m19 0 ?_
   refine sC (kG _ (i19.x zx) (j19.x zx)) ?_
   rintro _ h20 n20 ⟨b20,rfl,bq20⟩ y20 x20
   rcases bvs bq20 with ⟨rfl,q20⟩|⟨rfl,q20⟩
   ·refine zG ?_
    refine zu [0,0,0,0,12,28,62,127,255] rfl ?_
    refine zH ?_
    refine dI e19 r19 ?_
    refine dL t19 m19 0 ?_
    refine dC (mulQ _ (g.x zx) (i15.x zx) (j15.x zx) (i19.x zx) (j19.x zx) (hxs _ (List.mem_of_getElem? g15)) (hys _ (List.mem_of_getElem? g19)) zo) ?_
    rintro _ h21 n21 ⟨b21,a21,l21,c21,d21,e21,f21,g21,rfl,i21,j21⟩ y21 x21
    refine dC (addQ _ (g.x zx) (i13_0_0.t zt) (i13_0_1.t zt) i21 j21 (ai hxs hys _ zo zo) ((hxs _ (List.mem_of_getElem? g15)).mul (hys _ (List.mem_of_getElem? g19))) zo) ?_
    rintro _ h22 n22 ⟨b22,a22,l22,c22,d22,e22,f22,g22,rfl,i22,j22⟩ y22 x22
    refine dS [.bool b22,.slice a22 l22 c22,.bool d22,.slice e22 f22 g22] ?_
    intro h23 p23 o23
    refine zG ?_
    exact sK (j+1,b22,a22,l22,c22,d22,e22,f22,g22) ⟨rfl,zo,zy,p23,((i22.t zt).as (congrArg Rat.num ((wD g15 g19).symm))),((j22.t zt).as (congrArg denZ ((wD g15 g19).symm))),(by show j+1≤xs.length;omega)⟩
   refine zG ?_
   exact sK (j+1,bS,aS,lS,kS,uS,vS,wS,xS) ⟨rfl,zo,zy,zp,((i13_0_0.t zt).as (congrArg Rat.num (rS (wD g15 g19) (.inr q20)))),((i13_0_1.t zt).as (congrArg denZ (rS (wD g15 g19) (.inr q20)))),(by show j+1≤xs.length;omega)⟩
  refine zG ?_
  exact sK (j+1,bS,aS,lS,kS,uS,vS,wS,xS) ⟨rfl,zo,zy,zp,((i13_0_0.t zt).as (congrArg Rat.num (rS (wD g15 (List.getElem?_eq_getElem zo)) (.inl q18)))),((i13_0_1.t zt).as (congrArg denZ (rS (wD g15 (List.getElem?_eq_getElem zo)) (.inl q18)))),(by show j+1≤xs.length;omega)⟩
 refine zG ?_
 refine sS [.bool bS,.slice aS lS kS,.bool uS,.slice vS wS xS] ?_
 intro h24 p24 o24
 refine zq ?_
 exact ⟨_,_,_,_,_,_,_,_,rfl,(i13_0_0.t zt).as (by rw [show j=xs.length by omega,List.take_length]),(i13_0_1.t zt).as (by rw [show j=xs.length by omega,List.take_length])⟩
end
section
theorem pD {i j:Nat}(h:i≤j):10^i≤10^j:=Nat.pow_le_pow_right zd h
theorem mR (k:Nat)(h:HF)(n:Nat)(s:List UInt8)(hs:AllD s)(hl:s.length≤9):VF (cal (k+1)) 73 [.string ⟨⟨s⟩⟩] h n fun v=>v=.int .i64 ((dval s:Nat):Int):=by
 refine zB (fn:=Tryz.f73) R4 ?_
 refine zN ?_
 repeat refine zR ?_
 refine zN ?_
 repeat refine zR ?_
 refine zN ?_
 refine zM ?_
 refine st_I (ik:=.i64) (a:=(s.length:Int)) R5 ?_
 repeat refine zR ?_
 refine zN ?_
 refine z8 (α:=Nat) (fun m=>[(0,.string ⟨⟨s⟩⟩),(3,.int .i64 ((dval (s.take m):Nat):Int)),(6,.int .i64 (s.length:Int)),(7,.int .i64 (m:Int))]) (fun m h' n' w=>h=h'∧n=n'∧w=[]∧m≤s.length) (fun m=>s.length-m) 0 ⟨rfl,rfl,rfl,rfl,trivial⟩ ⟨rfl,rfl,rfl,Nat.zero_le _⟩ (by show s.length-0<LL;unfold LL;omega) ?_
 rintro m t _ _ _ ⟨rfl,rfl,rfl,hm⟩
 refine zN ?_
 by_cases hml:m=s.length
 ·repeat refine zR ?_
  refine zN ?_
  rw [za rfl]
  refine zN ?_
  repeat refine zR ?_
  refine zN ?_
  exact retF _ rfl (zi rfl) R2 (by rw [hml,List.take_length];rfl)
 obtain ⟨b,hb⟩:∃b,s[m]?=some b:=⟨s[m]'zo,List.getElem?_eq_getElem zo⟩
 have hbd:=hs b (List.mem_of_getElem? hb)
 have hlt:dval (s.take m)<10^m:=by
  have:=uf (s:=s.take m) fun b hb=>hs b (List.mem_of_mem_take hb)
  rw [List.length_take,Nat.min_eq_left zo] at this
  exact this
 have hp:=pD (i:=m) (j:=8) zo
 rw [show (10:Nat)^8=100000000 from rfl] at hp
 have hnext:dval (s.take (m+1))=10*dval (s.take m)+(b.toNat-48):=by rw [po hb,tN]
 generalize dval (s.take m)=V at hlt hnext
 repeat refine zR ?_
 refine zN ?_
 rw [ze rfl]
 refine zN ?_
 repeat refine zR ?_
 refine zN ?_
 refine zM ?_
 refine st_mul (a:=10) (b:=(V:Int)) rfl rfl rfl rfl rfl rfl zo ?_
 refine zM ?_
 refine zM ?_
 refine yq (j:=m) R8 hb ?_
 refine nv (a:=b.toNat) (b:=48) R6 zo ?_
 refine wf (ik:=.i64) (a:=((b.toNat-48:Nat):Int)) R6 (by show some (Value.int .i64 (IntKind.wrap .i64 _))=_;rw [yQ zo]) ?_
 refine vP (a:=10*(V:Int)) (b:=((b.toNat-48:Nat):Int)) R6 zo ?_
 repeat refine zR ?_
 refine zN ?_
 repeat refine zR ?_
 refine zN ?_
 exact goOn (m+1) (by show s.length-(m+1)<s.length-m;omega) ⟨rfl,by show Value.int .i64 _=Value.int .i64 _;rw [hnext];congr 1,rfl,rfl,trivial⟩ ⟨rfl,rfl,rfl,by show m+1≤_;omega⟩
theorem bp (k:Nat)(h:HF)(n:Nat)(a b:Nat)(hb:b<9223372036854775808):VF (cal (k+1)) 34 [.int .i64 (a:Int),.int .i64 (b:Int)] h n fun v=>v=.int .i64 ((Nat.gcd a b:Nat):Int):=by
 refine zB (fn:=Tryz.f34) R4 ?_
 refine zN ?_
 repeat refine zR ?_
 refine zN ?_
 refine z8 (α:=Nat×Nat) (fun z=>[(0,.int .i64 (z.1:Int)),(1,.int .i64 (z.2:Int))]) (fun z h' n' w=>h=h'∧n=n'∧w=[]∧z.2<9223372036854775808∧Nat.gcd z.1 z.2=Nat.gcd a b) (fun z=>z.2) (a,b) ⟨rfl,rfl,trivial⟩ ⟨rfl,rfl,rfl,hb,rfl⟩ (by show b<LL;unfold LL;omega) ?_
 rintro ⟨x,y⟩ t _ _ _ ⟨rfl,rfl,rfl,hy,hg⟩
 simp only at hy hg
 refine zN ?_
 by_cases hy0:y=0
 ·subst hy0
  repeat refine zR ?_
  refine zN ?_
  rw [za rfl]
  refine zN ?_
  repeat refine zR ?_
  refine zN ?_
  exact retF _ rfl (zi rfl) R2 (by rw [←hg,Nat.gcd_zero_right];rfl)
 repeat refine zR ?_
 refine zN ?_
 rw [ze rfl]
 refine zN ?_
 rw [xF rfl]
 refine zM ?_
 refine zM ?_
 refine zM ?_
 refine zdk (a:=(x:Int)) (b:=(y:Int)) R6 zo ?_
 rw [show (x:Int).tmod (y:Int)=((x%y:Nat):Int) from rfl]
 repeat refine zR ?_
 refine zN ?_
 exact goOn (y,x%y) (Nat.mod_lt _ zo) ⟨rfl,rfl,trivial⟩ ⟨rfl,rfl,rfl,Nat.lt_trans (Nat.mod_lt _ zo) hy,by show Nat.gcd y (x%y)=_;rw [←hg,Nat.gcd_comm x y,Nat.gcd_rec y x,Nat.gcd_comm]⟩
def ShR (s:List UInt8)(v:Value):Prop:=∃(x y:Int) (ok:Bool),v=.tuple #[.agg #[.int .i64 x,.int .i64 y],.bool ok]∧(ok=true→∃q:Rat,ratT q=s∧x=q.num∧y=(q.den:Int)∧q.num.natAbs<1000000000∧q.den<1000000000)
def ShT (s:List UInt8):Prop:=s.length≤20∧(spl s).1.length≤9∧(spl s).2.1.length≤9∧(spl s).2.2=true∧((spl s).2.1=[]∨Nat.gcd (dval (spl s).1) (dval (spl s).2.1)=1)
def ShR2 (s:List UInt8)(v:Value):Prop:=∃(x y:Int) (ok:Bool),v=.tuple #[.agg #[.int .i64 x,.int .i64 y],.bool ok]∧(ok=true→∃q:Rat,ratT q=s∧x=q.num∧y=(q.den:Int)∧q.num.natAbs<1000000000∧q.den<1000000000)∧(ShT s→ok=true)
theorem mM {s:List UInt8}(h:AllD s)(hl:s.length≤9):dval s<1000000000:=Nat.lt_of_lt_of_le (uf h) (Nat.le_trans (pD hl) zd)
theorem om (k:Nat)(h:HF)(n:Nat)(s:List UInt8)(hs:s.length<1000000):VX (cal (k+5)) 33 [.string ⟨⟨s⟩⟩] h n (ShR2 s):=by
 refine zv (fn:=Tryz.f33) R4 ?_
 refine zN ?_
 refine yR R5 ?_
 repeat refine zR ?_
 refine zN ?_
 generalize hh:upd h (3*n+2) _=h1
 have hr2:∃e,h1 (3*n+2)=some (.row [.int .i64 0,.int .i64 0] e):=⟨_,by rw [←hh,zg];rfl⟩
 obtain ⟨e2,hr2⟩:=hr2
 have hx:Ext n h h1:=fun b hb=>by rw [←hh,zj zo]
 clear hh
 refine zM ?_
 refine st_I (ik:=.i64) (a:=(s.length:Int)) R5 ?_
 by_cases hl20:20<s.length
 ·repeat refine zR ?_
  refine zN ?_
  rw [ze rfl]
  refine zN ?_
  refine zI (v:=.agg #[.int .i64 0,.int .i64 0]) R4 rfl ?_
  refine zX [.int .i64 0,.int .i64 0] R8 hr2 rfl (by show 3*n≤3*n+2;omega) ?_
  repeat refine zR ?_
  refine zN ?_
  exact yy (.bool false) R6 (zg _ _ _) rfl zo (fun b hb=>(zj zo).trans (hx b hb)) ⟨_,_,false,rfl,(fun h=>by cases h),fun h=>by have:=h.1;omega⟩
 repeat refine zR ?_
 refine zN ?_
 rw [za rfl]
 refine zN ?_
 refine zM ?_
 refine zw _ R5 (pZ k h1 (n+1) s hs) ?_
 rintro _ h1s n2 _ ⟨rfl,hn2,hx1s,rfl⟩
 replace hr2:=(hx1s (3*n+2) zo).trans hr2
 replace hx:Ext n h h1s:=fun b hb=>(hx1s b zo).trans (hx b hb)
 have hfrm:(spl s).2.2=true→Frm s (spl s).1 (spl s).2.1:=fun e=>uP (by rw [←e])
 have hsT:ShT s→(spl s).1.length≤9∧(spl s).2.1.length≤9∧(spl s).2.2=true∧((spl s).2.1=[]∨Nat.gcd (dval (spl s).1) (dval (spl s).2.1)=1):=fun h=>h.2
 generalize (spl s).1=M at hfrm hsT ⊢
 generalize (spl s).2.1=D at hfrm hsT ⊢
 generalize (spl s).2.2=ok at hfrm hsT ⊢
 generalize hmi:zP s=mi
 repeat refine zR ?_
 refine yR R5 ?_
 refine zX [.bool mi,.string ⟨⟨M⟩⟩,.string ⟨⟨D⟩⟩] R8 (zg _ _ _) rfl (by show 3*n≤3*n2+2;omega) ?_
 rw [wu]
 generalize hh:upd h1s (3*n2+2) _=h2
 replace hr2:h2 (3*n+2)=some (.row [.int .i64 0,.int .i64 0] e2):=by rw [←hh,zj zo];exact hr2
 have hr4:∃e,h2 (3*n2+2)=some (.row [.bool mi,.string ⟨⟨M⟩⟩,.string ⟨⟨D⟩⟩] e):=⟨_,by rw [←hh,zg]⟩
 obtain ⟨e4,hr4⟩:=hr4
 replace hx:Ext n h h2:=fun b hb=>by rw [←hh,zj zo,hx b hb]
 clear hh
 repeat refine zR ?_
 simp only [yE,xE,zK,xz]
 refine yP (α:=Bool) (fun z=>[(2,.pointer (some ⟨3*n+2,0,none⟩)),(4,.pointer (some ⟨3*n2+2,0,none⟩)),(29,.bool z)]) (fun z h' n' w=>h2=h'∧n'=n2+1∧w=[]∧(z=false→ok=true∧M.length≤9∧D.length≤9)∧(z=true→¬ShT s)) ?_ ?_
 ·refine zN ?_
  cases ok with
  |false=>
   repeat refine zR ?_
   refine zN ?_
   exact zS true ⟨rfl,rfl,rfl,trivial⟩ ⟨rfl,rfl,rfl,(fun h=>by cases h),(fun _ h=>by cases (hsT h).2.2.1)⟩
  |true=>
  repeat refine zR ?_
  refine zO R6 hr4 (v:=.string ⟨⟨M⟩⟩) R2 ?_
  refine st_I (ik:=.i64) (a:=(M.length:Int)) R5 ?_
  by_cases hM9:9<M.length
  ·repeat refine zR ?_
   refine zN ?_
   exact zS true ⟨rfl,rfl,rfl,trivial⟩ ⟨rfl,rfl,rfl,(fun h=>by cases h),(fun _ h=>by have:=(hsT h).1;omega)⟩
  repeat refine zR ?_
  refine zO R6 hr4 (v:=.string ⟨⟨D⟩⟩) R2 ?_
  refine st_I (ik:=.i64) (a:=(D.length:Int)) R5 ?_
  by_cases hD9:9<D.length
  ·repeat refine zR ?_
   refine zN ?_
   exact zS true ⟨rfl,rfl,rfl,trivial⟩ ⟨rfl,rfl,rfl,(fun h=>by cases h),(fun _ h=>by have:=(hsT h).2.1;omega)⟩
  repeat refine zR ?_
  refine zN ?_
  exact zS false ⟨rfl,rfl,rfl,trivial⟩ ⟨rfl,rfl,rfl,(fun _=>⟨by first|rfl|trivial,zo,zo⟩),fun h=>by cases h⟩
 rintro z t _ _ _ ⟨rfl,rfl,rfl,hz,hzT⟩
 cases z with
 |true=>
  rw [ze rfl]
  refine zN ?_
  refine zI (v:=.agg #[.int .i64 0,.int .i64 0]) R4 rfl ?_
  refine zX [.int .i64 0,.int .i64 0] R8 hr2 rfl (by show 3*n≤3*n+2;omega) ?_
  repeat refine zR ?_
  refine zN ?_
  exact yy (.bool false) R6 (zg _ _ _) rfl zo (fun b hb=>(zj zo).trans (hx b hb)) ⟨_,_,false,rfl,(fun h=>by cases h),fun h=>absurd h (hzT rfl)⟩
 |false=>
 rw [za rfl]
 refine zN ?_
 obtain ⟨rfl,hM9,hD9⟩:=hz rfl
 have hf:=hfrm rfl
 have hMv:=mM hf.dm hM9
 have hDv:=mM hf.dd hD9
 clear hz hfrm
 repeat refine zR ?_
 refine zO R6 hr4 (v:=.string ⟨⟨M⟩⟩) R2 ?_
 refine ya _ R5 (mR (k+3) h2 (n2+1) M hf.dm hM9) ?_
 rintro _ rfl
 refine zI (v:=.agg #[.int .i64 ((dval M:Nat):Int),.int .i64 1]) R4 rfl ?_
 refine yR R5 ?_
 refine zX [.int .i64 ((dval M:Nat):Int),.int .i64 1] R8 (zg _ _ _) rfl (by show 3*n≤3*(n2+1)+2;omega) ?_
 rw [wu]
 generalize hh:upd h2 (3*(n2+1)+2) _=h3
 replace hr2:h3 (3*n+2)=some (.row [.int .i64 0,.int .i64 0] e2):=by rw [←hh,zj zo];exact hr2
 replace hr4:h3 (3*n2+2)=some (.row [.bool mi,.string ⟨⟨M⟩⟩,.string ⟨⟨D⟩⟩] e4):=by rw [←hh,zj zo];exact hr4
 have hr6:∃e,h3 (3*(n2+1)+2)=some (.row [.int .i64 ((dval M:Nat):Int),.int .i64 1] e):=⟨_,by rw [←hh,zg]⟩
 obtain ⟨e6,hr6⟩:=hr6
 replace hx:Ext n h h3:=fun b hb=>by rw [←hh,zj zo,hx b hb]
 clear hh
 refine zN ?_
 repeat refine zR ?_
 refine zO R6 hr4 (v:=.string ⟨⟨D⟩⟩) R2 ?_
 refine zex (!(D==[])) rfl rfl rfl rfl rfl rfl rfl ?_
 simp only [yE,xE,zK,xz]
 refine yP (α:=Nat) (fun _=>[(2,.pointer (some ⟨3*n+2,0,none⟩)),(4,.pointer (some ⟨3*n2+2,0,none⟩)),(6,.pointer (some ⟨3*(n2+1)+2,0,none⟩))]) (fun z h' n' w=>w=[]∧n'=n2+1+1∧Ext n h h'∧h' (3*n+2)=some (.row [.int .i64 0,.int .i64 0] e2)∧h' (3*n2+2)=some (.row [.bool mi,.string ⟨⟨M⟩⟩,.string ⟨⟨D⟩⟩] e4)∧(∃e,h' (3*(n2+1)+2)=some (.row [.int .i64 ((dval M:Nat):Int),.int .i64 (z:Int)] e))∧z=(if D=[] then 1 else dval D)∧(D=[]∨Nat.gcd (dval M) (dval D)=1)) ?_ ?_
 ·by_cases hD:D=[]
  ·rw [za (by show Value.bool _=_;rw [hD];rfl)]
   refine zN ?_
   exact zS 1 ⟨rfl,rfl,rfl,trivial⟩ ⟨rfl,rfl,hx,hr2,hr4,⟨e6,hr6⟩,by rw [if_pos hD],.inl hD⟩
  rw [ze (by show Value.bool _=_;rw [show (D==[])=false from by simpa using hD];rfl)]
  refine zN ?_
  repeat refine zR ?_
  refine zO R6 hr4 (v:=.string ⟨⟨D⟩⟩) R2 ?_
  refine ya _ R5 (mR (k+3) h3 (n2+1+1) D hf.dd hD9) ?_
  rintro _ rfl
  repeat refine zR ?_
  refine ym (cs:=[.int .i64 ((dval D:Nat):Int)]) R8 hr6 zb (by show 3*n≤3*(n2+1)+2;omega) ?_
  generalize hh:upd h3 (3*(n2+1)+2) _=h4
  replace hr2:h4 (3*n+2)=some (.row [.int .i64 0,.int .i64 0] e2):=by rw [←hh,zj zo];exact hr2
  replace hr4:h4 (3*n2+2)=some (.row [.bool mi,.string ⟨⟨M⟩⟩,.string ⟨⟨D⟩⟩] e4):=by rw [←hh,zj zo];exact hr4
  replace hr6:h4 (3*(n2+1)+2)=some (.row [.int .i64 ((dval M:Nat):Int),.int .i64 ((dval D:Nat):Int)] e6):=by rw [←hh,zg];rfl
  replace hx:Ext n h h4:=fun b hb=>by rw [←hh,zj zo,hx b hb]
  clear hh
  refine zN ?_
  repeat refine zR ?_
  refine zO R6 hr6 (v:=.int .i64 ((dval M:Nat):Int)) R2 ?_
  repeat refine zR ?_
  refine zO R6 hr6 (v:=.int .i64 ((dval D:Nat):Int)) R2 ?_
  refine ya _ R5 (bp (k+3) h4 (n2+1+1) (dval M) (dval D) zo) ?_
  rintro _ rfl
  by_cases hg:Nat.gcd (dval M) (dval D)=1
  ·repeat refine zR ?_
   refine zN ?_
   rw [za rfl]
   refine zN ?_
   exact zS (dval D) ⟨rfl,rfl,rfl,trivial⟩ ⟨rfl,rfl,hx,hr2,hr4,⟨e6,hr6⟩,by rw [if_neg hD],.inr hg⟩
  repeat refine zR ?_
  refine zN ?_
  rw [ze rfl]
  refine zN ?_
  refine zI (v:=.agg #[.int .i64 0,.int .i64 0]) R4 rfl ?_
  refine zX [.int .i64 0,.int .i64 0] R8 hr2 rfl (by show 3*n≤3*n+2;omega) ?_
  repeat refine zR ?_
  refine zN ?_
  exact yy (.bool false) R6 (zg _ _ _) rfl zo (fun b hb=>(zj zo).trans (hx b hb)) ⟨_,_,false,rfl,(fun h=>by cases h),fun h=>by
   rcases (hsT h).2.2.2 with h|h
   ·exact (hD h).elim
   ·exact (hg h).elim⟩
 rintro z t h5 n5 _ ⟨rfl,rfl,hx,hr2,hr4,⟨e6,hr6⟩,hz,hg⟩
 obtain ⟨q,hq,hq1,hq2⟩:=hf.rat hg
 rw [←hz] at hq2
 rw [hmi] at hq1
 have hz9:z<1000000000:=by
  rw [hz]
  split
  ·decide
  exact hDv
 refine zN ?_
 repeat refine zR ?_
 refine zO R6 hr4 (v:=.bool mi) R2 ?_
 refine zN ?_
 cases mi with
 |true=>
  rw [ze rfl]
  refine zN ?_
  repeat refine zR ?_
  refine zO R6 hr6 (v:=.int .i64 ((dval M:Nat):Int)) R2 ?_
  refine st_I (ik:=.i64) (a:= -((dval M:Nat):Int)) ⟨rfl,rfl,rfl,rfl,(by show some (Value.int .i64 (IntKind.wrap .i64 _))=_;rw [yQ zo,Int.zero_sub])⟩ ?_
  repeat refine zR ?_
  refine ym (cs:=[.int .i64 (-((dval M:Nat):Int))]) R8 hr6 zb (by show 3*n≤3*(n2+1)+2;omega) ?_
  generalize hh:upd h5 (3*(n2+1)+2) _=h6
  replace hr2:h6 (3*n+2)=some (.row [.int .i64 0,.int .i64 0] e2):=by rw [←hh,zj zo];exact hr2
  replace hr6:h6 (3*(n2+1)+2)=some (.row [.int .i64 (-((dval M:Nat):Int)),.int .i64 (z:Int)] e6):=by rw [←hh,zg];rfl
  replace hx:Ext n h h6:=fun b hb=>by rw [←hh,zj zo,hx b hb]
  clear hh
  refine zN ?_
  refine zV (v:=.agg #[.int .i64 (-((dval M:Nat):Int)),.int .i64 (z:Int)]) R5 (yo R2 hr6 rfl zb rfl) ?_
  refine zX [.int .i64 (-((dval M:Nat):Int)),.int .i64 (z:Int)] R8 hr2 rfl (by show 3*n≤3*n+2;omega) ?_
  repeat refine zR ?_
  refine zN ?_
  refine yy (.bool true) R6 (zg _ _ _) rfl zo (fun b hb=>(zj zo).trans (hx b hb)) ⟨_,_,true,rfl,(fun _=>⟨q,hq,?_,by rw [hq2],?_,by rw [hq2];exact hz9⟩),fun _=>rfl⟩
  ·rw [hq1];rfl
  rw [hq1];simp only [if_true];omega
 |false=>
  rw [za rfl]
  refine zN ?_
  refine zV (v:=.agg #[.int .i64 ((dval M:Nat):Int),.int .i64 (z:Int)]) R5 (yo R2 hr6 rfl zb rfl) ?_
  refine zX [.int .i64 ((dval M:Nat):Int),.int .i64 (z:Int)] R8 hr2 rfl (by show 3*n≤3*n+2;omega) ?_
  repeat refine zR ?_
  refine zN ?_
  refine yy (.bool true) R6 (zg _ _ _) rfl zo (fun b hb=>(zj zo).trans (hx b hb)) ⟨_,_,true,rfl,(fun _=>⟨q,hq,?_,by rw [hq2],?_,by rw [hq2];exact hz9⟩),fun _=>rfl⟩
  ·rw [hq1];rfl
  rw [hq1];simp only [Bool.false_eq_true,if_false];omega
theorem re (k:Nat)(h:HF)(n:Nat)(s:List UInt8)(hs:s.length<1000000):VX (cal (k+5)) 33 [.string ⟨⟨s⟩⟩] h n (ShR s):=by
 refine xU (om k h n s hs) ?_
 rintro v h' n' w ⟨h1,h2,h3,x,y,ok,e,hq,_⟩
 exact ⟨h1,h2,h3,x,y,ok,e,hq⟩
end
section
variable {e ty ty':TypeId}{x y:Operand}{B cap:Nat}{c0:List Value}{T:List Nat}
section
variable {X:CtxF}{ops r:List Oper}{t:TF}{h:HF}{n:Nat}{w:List Nat}{Q:SV→Prop}{o:Oper}{d:Tmp}
theorem zdl {a b c:Int}(hw:zh ops t o=true∧o.dst=some d∧zn X.nt (some d)=true∧o.op=.binOp .quo ty x y ty'∧evF t x=.int .i64 a∧evF t y=.int .i64 b)(hr:b≠0)(hc:a.tdiv b=c)(hr2: -9223372036854775808≤c∧c<9223372036854775808)
  (k:EO X ops r ⟨upd t d (.int .i64 c),h,n,w⟩ Q):EO X ops (o::r) ⟨t,h,n,w⟩ Q:=by
 obtain ⟨hw,hd,hn,ho,hx,hy⟩:=hw
 refine zI ⟨hw,hd,hn,(by rw [ho];rfl)⟩ ?_ k
 rw [ho]
 show binE X.E .quo ty (evF t x) (evF t y)=_
 rw [hx,hy]
 have:ikEq .i64 .i64=true:=rfl
 simp only [binE,isSh,this,intE,if_neg hr,hc,yQ hr2]
theorem zg5 {a:Int}(hw:zh ops t o=true)(hd:o.dst=some d)(hn:zn X.nt (some d)=true)(ho:o.op=.unOp .neg ty x)(hx:evF t x=.int .i64 a)(hr: -9223372036854775808≤ -a∧ -a<9223372036854775808)
  (k:EO X ops r ⟨upd t d (.int .i64 (-a)),h,n,w⟩ Q):EO X ops (o::r) ⟨t,h,n,w⟩ Q:=by
 refine zI ⟨hw,hd,hn,(by rw [ho];rfl)⟩ ?_ k
 rw [ho]
 show unE .neg (evF t x)=_
 rw [hx]
 show some (Value.int .i64 (IntKind.wrap .i64 (0-a)))=_
 rw [show 0-a= -a by omega,yQ hr]
end
theorem eJ (k:Nat){h:HF}(hG:GK.G h){n:Nat}(hn:20≤n)(hT:c0.take T.length=u8s T)(hB:60≤B∧B<3*n)(hrow:h B=some (.row c0 e))(hc0:cap=c0.length∧T.length+21≤cap∧cap<1000000){x:Int}(hx: -9223372036854775808≤x∧x<9223372036854775808):
  CF (cal (k+4)) 75 [.slice (some ⟨B,0,none⟩) T.length cap,.int .i64 x,.int .i64 10] h n fun v h' n' w=>BufT T h n B cap e c0 (intN x) v h' n' w:=by
 refine zv (fn:=Tryz.f75) R4 ?_
 obtain ⟨m,hm⟩:∃m,m=x.natAbs:=⟨_,rfl⟩
 refine zN ?_
 refine zM ?_
 refine zN ?_
 by_cases hneg:x<0
 ·have hi:intN x=[45]++decN m:=by unfold intN;rw [if_pos hneg,hm]
  refine zM ?_
  refine wf (ik:=.u64) (a:=((18446744073709551616-m:Nat):Int)) R6 ?_ ?_
  ·show some (Value.int .u64 (IntKind.wrap .u64 x))=_
   rw [show x= -(m:Int) from zo,s0 m zo]
  refine zM ?_
  refine zN ?_
  repeat refine zR ?_
  refine zN ?_
  rw [ze rfl]
  refine zN ?_
  refine zM ?_
  refine wG [.int .u8 45] (l:=1) (c:=1) R5 ?_
  intro h1 p1 x1
  have hrow1:=(x1 B hB.2).trans hrow
  refine yK R5 (uC (m:=1) R3 zb (yC p1 R2) zo ⟨rfl,Nat.le_refl _⟩ zo hrow1 zo rfl) ?_
  rw [rZ (by show B<3*n;exact hB.2)]
  rw [show T.length+1=(T++[45]).length from by rw [List.length_append];rfl]
  obtain ⟨t1,t2⟩:=wJ (N:=[45]) hT (by show T.length+1≤_;omega)
  have hG2:GK.G (upd h1 B (some (.row (zm c0 T.length [.int .u8 45]) e))):=G_fr hG fun b hb _=>(zj zo).trans (x1 b zo)
  refine zM ?_
  refine zN ?_
  refine zM ?_
  refine zI (v:=.int .u64 (m:Int)) R4 ?_ ?_
  ·show some (Value.int .u64 (IntKind.wrap .u64 (0-((18446744073709551616-m:Nat):Int))))=_
   rw [tg _ zo]
   congr 3
   omega
  refine zM ?_
  refine zN ?_
  refine zM ?_
  refine zM ?_
  refine zM ?_
  refine zw _ R5 (te k hG2 (n:=n+1) zo (T:=T++[45]) (B:=B) (cap:=cap) (u:=m) t1 zo (zg _ _ _) ⟨by rw [t2];exact hc0.1,by rw [List.length_append];simp;omega,hc0.2.2⟩ zo) ?_
  rintro v h3 n3 w3 ⟨rfl,hn3,hw3,ho3,c3,hr3,hl3,ht3⟩
  refine zM ?_
  refine zN ?_
  refine retH [.slice (some ⟨B,0,none⟩) (T++[45]++decN m).length cap] R3 ⟨by rw [hi,←List.append_assoc];rfl,by show n≤n3;omega,fun b hb=>?_,fun b hb hne=>(ho3 b zo hne).trans ((zj hne).trans (x1 b hb)),c3,hr3,hl3.trans t2,by rw [hi,←List.append_assoc];exact ht3⟩
  rcases yu.1 hb with h|⟨h,_⟩
  ·exact List.mem_singleton.1 h
  exact hw3 b h
 have hi:intN x=decN m:=by unfold intN;rw [if_neg hneg,hm];rfl
 obtain rfl:x=(m:Int):=zo
 refine zM ?_
 refine uO (c:=m) R7 zo ?_
 refine zM ?_
 refine zN ?_
 repeat refine zR ?_
 refine zN ?_
 rw [za rfl]
 refine zN ?_
 refine zM ?_
 refine zM ?_
 refine zM ?_
 refine zw _ R5 (te k hG hn (T:=T) (B:=B) (cap:=cap) (u:=m) hT zo hrow ⟨hc0.1,zo,hc0.2.2⟩ zo) ?_
 rintro v h3 n3 w3 ⟨rfl,hn3,hw3,ho3,c3,hr3,hl3,ht3⟩
 refine zM ?_
 refine zN ?_
 refine retH [.slice (some ⟨B,0,none⟩) (T++decN m).length cap] R3 ⟨by rw [hi];rfl,hn3,fun b hb=>?_,ho3,c3,hr3,hl3,by rw [hi];exact ht3⟩
 rcases yu.1 hb with h|⟨h,_⟩
 ·exact absurd h List.not_mem_nil
 exact hw3 b h
theorem qV (k:Nat){h:HF}(hG:GK.G h){n:Nat}(hn:20≤n)(hT:c0.take T.length=u8s T)(hB:60≤B∧B<3*n)(hrow:h B=some (.row c0 e))(hc0:cap=c0.length∧T.length+21≤cap∧cap<1000000){x:Int}(hx: -9223372036854775808≤x∧x<9223372036854775808):
  CF (cal (k+5)) 36 [.slice (some ⟨B,0,none⟩) T.length cap,.int .i64 x,.int .i64 10] h n fun v h' n' w=>BufT T h n B cap e c0 (intN x) v h' n' w:=by
 refine zv (fn:=Tryz.f36) R4 ?_
 refine zN ?_
 refine zM ?_
 refine zN ?_
 refine zM ?_
 refine zM ?_
 refine zM ?_
 refine zw _ R5 (eJ k hG hn hT hB hrow hc0 hx) ?_
 rintro v h3 n3 w3 ⟨rfl,hn3,hw3,ho3,c3,hr3,hl3,ht3⟩
 refine zM ?_
 refine zN ?_
 refine retH [.slice (some ⟨B,0,none⟩) (T++intN x).length cap] R3 ⟨rfl,hn3,fun b hb=>?_,ho3,c3,hr3,hl3,ht3⟩
 rcases yu.1 hb with h|⟨h,_⟩
 ·exact absurd h List.not_mem_nil
 exact hw3 b h
theorem rq (N:Int){D:Nat}(hD:0<D):(Rat.divInt N D).num=N.tdiv ((Nat.gcd N.natAbs D:Nat):Int)∧((Rat.divInt N D).den:Int)=(D:Int).tdiv ((Nat.gcd N.natAbs D:Nat):Int):=by
 have hg:0<Nat.gcd N.natAbs D:=Nat.gcd_pos_of_pos_right _ hD
 rw [Rat.divInt_ofNat,←Rat.normalize_eq_mkRat zo,Rat.normalize_eq]
 simp only
 refine ⟨?_,?_⟩
 ·rw [Int.tdiv_eq_ediv_of_dvd]
  exact Int.ofNat_dvd_left.2 (Nat.gcd_dvd_left _ _)
 rfl
theorem pH {x:Int}(hx: -9223372036854775808≤x∧x<9223372036854775808):(intN x).length≤21:=by
 have h1:(decN x.natAbs).length≤20:=by
  unfold decN
  split
  ·decide
  unfold decB;rw [List.length_map];exact xP 20 _ zo
 unfold intN
 rw [List.length_append]
 split<;>simp<;>omega
theorem kQ (k:Nat){h:HF}(hG:GK.G h){n:Nat}(hn:20≤n){N:Int}{D:Nat}(hN: -9000000000000000000≤N∧N≤9000000000000000000)(hD:0<D∧D≤9000000000000000000):VF (cal (k+6)) 14 [.int .i64 N,.int .i64 (D:Int)] h n fun v=>v=.string ⟨⟨ratT (Rat.divInt N D)⟩⟩:=by
 refine zB (fn:=Tryz.f14) R4 ?_
 obtain ⟨e1,e2⟩:=rq N hD.1
 have hg:0<Nat.gcd N.natAbs D:=Nat.gcd_pos_of_pos_right _ hD.1
 have hgD:Nat.gcd N.natAbs D≤D:=Nat.le_of_dvd hD.1 (Nat.gcd_dvd_right _ _)
 generalize Rat.divInt N D=q at e1 e2 ⊢
 have hqD:(q.den:Int)≤D∧(0:Int)<q.den:=by
  refine ⟨?_,by have:=q.den_pos;omega⟩
  rw [e2]
  exact Int.ofNat_le.2 (Nat.div_le_self _ _)
 have hqN: -9000000000000000000≤q.num∧q.num≤9000000000000000000:=by
  have h1:q.num.natAbs≤N.natAbs:=by rw [e1,Int.natAbs_tdiv];exact Nat.div_le_self _ _
  omega
 refine zN ?_
 refine zM ?_
 refine zN ?_
 repeat refine zR ?_
 refine zN ?_
 rw [za rfl,yE,zK,xz]
 refine yP (α:=Unit) (fun _=>[(0,.int .i64 q.num),(1,.int .i64 (q.den:Int))]) (fun _ h' n' w=>h=h'∧n'=n∧w=[]) ?_ ?_
 ·refine zN ?_
  by_cases hD1:D=1
  ·subst hD1
   rw [Nat.gcd_one_right] at e1 e2
   repeat refine zR ?_
   refine zN ?_
   rw [za rfl]
   refine zN ?_
   exact zS () ⟨by rw [e1];simp;rfl,by rw [e2];rfl,trivial⟩ ⟨rfl,rfl,rfl⟩
  repeat refine zR ?_
  refine zN ?_
  rw [ze rfl]
  refine zN ?_
  refine zM ?_
  refine zM ?_
  refine zg5 rfl rfl rfl rfl rfl zo ?_
  refine st_I (ik:=.i64) (a:=(N.natAbs:Int)) ⟨rfl,rfl,rfl,rfl,?_⟩ ?_
  ·show some (Value.int .i64 (if N< -N then -N else N))=_
   congr 2
   split<;>omega
  refine zM ?_
  refine ya _ R5 (bp (k+4) _ _ N.natAbs D zo) ?_
  rintro _ rfl
  refine zM ?_
  refine zN ?_
  rw [xF rfl]
  refine zM ?_
  refine zM ?_
  refine zdl (c:=q.num) R6 zo e1.symm zo ?_
  refine zM ?_
  refine zM ?_
  refine zdl (c:=(q.den:Int)) R6 zo e2.symm zo ?_
  refine zM ?_
  refine zM ?_
  refine zN ?_
  exact zS () ⟨rfl,rfl,trivial⟩ ⟨rfl,rfl,rfl⟩
 rintro _ t _ n _ ⟨rfl,rfl,rfl⟩
 refine zN ?_
 by_cases hq1:q.den=1
 ·repeat refine zR ?_
  refine zN ?_
  rw [ze rfl]
  refine zN ?_
  refine zM ?_
  refine ya _ R5 (pK (k+1) hG hn (x:=q.num) zo) ?_
  rintro _ rfl
  refine zM ?_
  refine zN ?_
  exact retF _ rfl (zi rfl) R2 (by rw [sf (yf.2 hq1)];rfl)
 have hz:¬denZ q=0:=mt yf.1 hq1
 repeat refine zR ?_
 refine zN ?_
 rw [za rfl]
 refine zN ?_
 refine wI (List.replicate 48 (.int .u8 0)) R6 ?_
 intro h1 p1 x1
 have hG1:=vT hG x1 hn
 have hl1:(intN q.num).length≤21:=pH zo
 refine zN ?_
 refine ut (j:=0) R8 rfl (zA n) zo ?_
 refine zM ?_
 refine zw _ R5 (qV k hG1 (n:=n+1) zo (T:=[]) (B:=3*n+2) (cap:=48) rfl zo p1 ⟨by rw [List.length_replicate],by show 0+21≤48;omega,zo⟩ (x:=q.num) zo) ?_
 rintro v h2 n2 w2 ⟨rfl,hn2,hw2,ho2,c2,hr2,hl2,ht2⟩
 rw [z6 fun b hb=>by rw [hw2 b hb];show 3*n≤_;omega]
 rw [List.length_replicate] at hl2
 refine zM ?_
 refine zN ?_
 refine zM ?_
 refine wG [.int .u8 47] (l:=1) (c:=1) R5 ?_
 intro h3 p3 x3
 have hr3:=(x3 (3*n+2) zo).trans hr2
 refine yK R5 (uC (m:=1) R3 zb (yC p3 R2) (by show (([]++intN q.num).length+1)*1≤_;rw [List.nil_append];omega) ⟨rfl,Nat.le_refl _⟩ (by rw [List.nil_append];omega) hr3 (by rw [List.nil_append];omega) rfl) ?_
 rw [z6 fun b hb=>by rw [List.mem_singleton.1 hb];show 3*n≤_;omega]
 rw [show (([]:List Nat)++intN q.num).length+1=(([]:List Nat)++intN q.num++[47]).length from by simp]
 obtain ⟨t1,t2⟩:=wJ (N:=[47]) ht2 (by show ([]++intN q.num).length+1≤_;rw [List.nil_append];omega)
 generalize hh4:upd h3 (3*n+2) _=h4
 have hG4:GK.G h4:=by
  rw [←hh4]
  exact G_fr hG fun b hb _=>(zj zo).trans ((x3 b zo).trans ((ho2 b zo zo).trans (x1 b zo)))
 have hr4:∃e,h4 (3*n+2)=some (.row (zm c2 ([]++intN q.num).length [.int .u8 47]) e):=⟨_,by rw [←hh4];exact zg _ _ _⟩
 obtain ⟨e4,hr4⟩:=hr4
 have hl4:(intN (q.den:Int)).length≤21:=pH zo
 refine zM ?_
 refine zN ?_
 refine zM ?_
 refine zM ?_
 refine zw _ R5 (qV k hG4 (n:=n2+1) zo (T:=[]++intN q.num++[47]) (B:=3*n+2) (cap:=48) t1 zo hr4 ⟨by rw [t2,hl2],by rw [List.length_append,List.nil_append];simp;omega,zo⟩ (x:=(q.den:Int)) zo) ?_
 rintro v h5 n5 w5 ⟨rfl,hn5,hw5,ho5,c5,hr5,hl5,ht5⟩
 rw [z6 fun b hb=>by rw [hw5 b hb];show 3*n≤_;omega]
 refine qe R5 (tn (B:=[]++intN q.num++[47]++intN (q.den:Int)) R3 (wq hr5 (by rw [List.drop_zero];exact ht5) (by rw [hl5,t2,hl2];simp only [List.length_append,List.nil_append,List.length_singleton];omega) (by simp only [List.length_append,List.nil_append,List.length_singleton];omega))) ?_
 refine zM ?_
 refine zN ?_
 refine retF _ rfl (zi rfl) R2 ?_
 show Value.string _=_
 rw [List.nil_append,nR hz,xO hz]
end
section
variable {h:HF}{n:Nat}{q:Rat}{s:List UInt8}
structure SR (s:List UInt8)(x y:Int):Prop where
 e1:x=(zk s).num
 e2:y=((zk s).den:Int)
 b1: -1000000000<x∧x<1000000000
 b2:0<y∧y<1000000000
theorem mul9 {a b:Int}(ha: -1000000000<a∧a<1000000000)(hb: -1000000000<b∧b<1000000000): -1000000000000000000≤a*b∧a*b≤1000000000000000000:=by
 have h:(a*b).natAbs≤1000000000*1000000000:=by
  rw [Int.natAbs_mul]
  exact Nat.mul_le_mul zo zo
 omega
theorem zht {a b:Int}(ha:0<a∧a<1000000000)(hb:0<b∧b<1000000000):0<a*b∧a*b≤1000000000000000000:=⟨Int.mul_pos ha.1 hb.1,(mul9 ⟨zo,ha.2⟩ ⟨zo,hb.2⟩).2⟩
theorem pC (k:Nat)(h:HF)(n:Nat)(s:List UInt8)(hs:s.length<1000000):CX (cal (k+5)) 33 [.string ⟨⟨s⟩⟩] h n fun v _ _=>∃x y ok,v=.tuple #[.agg #[.int .i64 x,.int .i64 y],.bool ok]∧(ok=true→SR s x y):=by
 refine xU (re k h n s hs) ?_
 rintro v h' n' w ⟨h1,h2,h3,x,y,ok,rfl,hq⟩
 refine ⟨h1,h2,h3,x,y,ok,rfl,fun ho=>?_⟩
 obtain ⟨q,e,rfl,rfl,b1,b2⟩:=hq ho
 rw [←tI e] at*
 have:=(zk s).den_pos
 exact ⟨rfl,rfl,zo,zo⟩
theorem mH (k:Nat)(g:GG h n){N D:Int}(hN: -9000000000000000000≤N∧N≤9000000000000000000)(hD:0<D∧D≤9000000000000000000):CX (cal (k+6)) 14 [.int .i64 N,.int .i64 D] h n fun v _ _=>v=.string ⟨⟨ratT (Rat.divInt N D)⟩⟩:=by
 obtain ⟨d,rfl⟩:∃d:Nat,D=(d:Int):=⟨D.toNat,zo⟩
 exact (kQ k g.1 g.2 hN ⟨zo,zo⟩).cx
theorem SR.add {a b:List UInt8}{x y u v:Int}(p:SR a x y)(q:SR b u v):Rat.divInt (x*v+u*y) (y*v)=zk a+zk b:=by
 rw [p.e1,p.e2,q.e1,q.e2,Rat.add_def',←Rat.divInt_ofNat,Int.natCast_mul]
theorem SR.mul {a b:List UInt8}{x y u v:Int}(p:SR a x y)(q:SR b u v):Rat.divInt (x*u) (y*v)=zk a*zk b:=by
 rw [p.e1,p.e2,q.e1,q.e2,Rat.mul_def',←Rat.divInt_ofNat,Int.natCast_mul]
theorem SR.cmp {a b:List UInt8}{x y u v:Int}(p:SR a x y)(q:SR b u v):(x*v<u*y↔zk a<zk b)∧(x*v=u*y↔zk a=zk b)∧(u*y<x*v↔zk b<zk a):=by
 rw [p.e1,p.e2,q.e1,q.e2]
 have h:=oX (zk a) (zk b)
 exact ⟨h.1.symm,h.2.1.symm,h.2.2.symm⟩
theorem TL.ratT (h:Sz 1890 q):TL (ratT q):=by
 have key:∀V,V<2^1890→(decT V).length≤570:=fun V hV=>by
  unfold decT
  split
  ·decide
  rw [List.length_map,oT]
  exact xP 570 V (Nat.lt_of_lt_of_le hV (by decide+kernel))
 refine ⟨?_,fun m d e=>?_⟩
 ·have h1:=key _ h.1
  have h2:=key _ h.2
  unfold Go.Proofs.YtdcfbgmbaniglaaGreatDoor.ratT
  simp only [List.length_append]
  split<;>split<;>simp<;>omega
 rw [rM] at e
 injection e with e1 e2
 injection e2 with e2 _
 subst e1 e2
 refine ⟨key _ h.1,?_⟩
 split
 ·exact Nat.zero_le _
 exact key _ h.2
theorem jU (k:Nat){a b:List UInt8}(ha:a.length<1000000)(hb:b.length<1000000):CX (cal (k+6)) 13 [.string ⟨⟨a⟩⟩,.string ⟨⟨b⟩⟩] h n fun v _ _=>∃x y u t ok,v=.tuple #[.agg #[.int .i64 x,.int .i64 y],.agg #[.int .i64 u,.int .i64 t],.bool ok]∧(ok=true→SR a x y∧SR b u t):=by
 refine zv (fn:=Tryz.f13) R4 ?_
 refine zG ?_
 refine sA ?_
 intro h11 p11 x11
 refine sA ?_
 intro h12 p12 x12
 refine zG ?_
 refine sC (pC _ _ _ a ha) ?_
 rintro _ h13 n13 ⟨sx13,sy13,ok13,rfl,m13⟩ y13 x13
 cases ok13
 ·refine zG ?_
  refine sA ?_
  intro h14 p14 x14
  refine sS [.int .i64 sx13,.int .i64 sy13] ?_
  intro h15 p15 o15
  refine zG ?_
  refine sT #[.int .i64 0,.int .i64 0] ?_
  refine sT #[.int .i64 0,.int .i64 0] ?_
  refine sS [.int .i64 0,.int .i64 0] ?_
  intro h16 p16 o16
  refine sS [.int .i64 0,.int .i64 0] ?_
  intro h17 p17 o17
  refine zq ?_
  exact ⟨_,_,_,_,_,rfl,fun hq=>(by cases hq)⟩
 have m13:=m13 rfl
 refine zG ?_
 refine sA ?_
 intro h18 p18 x18
 refine sS [.int .i64 sx13,.int .i64 sy13] ?_
 intro h19 p19 o19
 refine zG ?_
 refine sC (pC _ _ _ b hb) ?_
 rintro _ h20 n20 ⟨sx20,sy20,ok20,rfl,m20⟩ y20 x20
 cases ok20
 ·refine zG ?_
  refine sA ?_
  intro h21 p21 x21
  refine sS [.int .i64 sx20,.int .i64 sy20] ?_
  intro h22 p22 o22
  refine zG ?_
  refine sT #[.int .i64 0,.int .i64 0] ?_
  refine sT #[.int .i64 0,.int .i64 0] ?_
  refine sS [.int .i64 0,.int .i64 0] ?_
  intro h23 p23 o23
  refine sS [.int .i64 0,.int .i64 0] ?_
  intro h24 p24 o24
  refine zq ?_
  exact ⟨_,_,_,_,_,rfl,fun hq=>(by cases hq)⟩
 have m20:=m20 rfl
 refine zG ?_
 refine sA ?_
 intro h25 p25 x25
 refine sS [.int .i64 sx20,.int .i64 sy20] ?_
 intro h26 p26 o26
 refine zG ?_
 refine zu [0,0,1,7,15] rfl ?_
 refine zH ?_
 refine dS [.int .i64 sx13,.int .i64 sy13] ?_
 intro h27 p27 o27
 refine dS [.int .i64 sx20,.int .i64 sy20] ?_
 intro h28 p28 o28
 refine zq ?_
 exact ⟨_,_,_,_,_,rfl,fun _=>⟨m13,m20⟩⟩
theorem jF (k:Nat)(g:GG h n)(hs:TL s):CX (cal (k+10)) 15 [.string ⟨⟨s⟩⟩] h n (QV (zk s)):=by
 refine zv (fn:=Tryz.f15) R4 ?_
 refine zG ?_
 refine sA ?_
 intro h11 p11 x11
 refine zG ?_
 refine sC (zhd _ (g.x zx) hs) ?_
 rintro _ h12 n12 ⟨b12,a12,l12,c12,d12,e12,f12,g12,ok12,rfl,i12,j12,m12⟩ y12 x12
 refine zG ?_
 refine sA ?_
 intro h13 p13 x13
 refine sS [.bool b12,.slice a12 l12 c12,.bool d12,.slice e12 f12 g12] ?_
 intro h14 p14 o14
 refine zG ?_
 refine sS [.bool b12,.slice a12 l12 c12,.bool d12,.slice e12 f12 g12] ?_
 intro h15 p15 o15
 refine zq ?_
 exact ⟨_,_,_,_,_,_,_,_,rfl,(i12.t zt),(j12.t zt)⟩
theorem addS (k:Nat)(g:GG h n){a b:List UInt8}(ha:TL a)(hb:TL b){p q r:Nat}(sa:Sz p (zk a))(sb:Sz q (zk b))(hpq:p+q+1≤2496)(sr:Sz r (zk a+zk b))(hr:r≤1920):VF (cal (k+11)) 6 [.string ⟨⟨a⟩⟩,.string ⟨⟨b⟩⟩] h n fun v=>v=.string ⟨⟨ratT (zk a+zk b)⟩⟩:=by
 refine zB (fn:=Tryz.f6) R4 ?_
 refine zG ?_
 refine sC (jU _ ha.1 hb.1) ?_
 rintro _ h11 n11 ⟨sx11,sy11,su11,sv11,ok11,rfl,m11⟩ y11 x11
 cases ok11
 ·refine zG ?_
  refine sA ?_
  intro h12 p12 x12
  refine sA ?_
  intro h13 p13 x13
  refine sS [.int .i64 sx11,.int .i64 sy11] ?_
  intro h14 p14 o14
  refine sS [.int .i64 su11,.int .i64 sv11] ?_
  intro h15 p15 o15
  refine zG ?_
  refine sC (jF _ (g.x zx) ha) ?_
  rintro _ h16 n16 ⟨b16,a16,l16,c16,d16,e16,f16,g16,rfl,i16,j16⟩ y16 x16
  refine zG ?_
  refine sC (jF _ (g.x zx) hb) ?_
  rintro _ h17 n17 ⟨b17,a17,l17,c17,d17,e17,f17,g17,rfl,i17,j17⟩ y17 x17
  refine sC (addQ _ (g.x zx) (i16.t zt) (j16.t zt) i17 j17 sa sb zo) ?_
  rintro _ h18 n18 ⟨b18,a18,l18,c18,d18,e18,f18,g18,rfl,i18,j18⟩ y18 x18
  refine sC ((vX _ (g.x zx).1 (g.x zx).2 i18 j18 sr hr).cx) ?_
  rintro _ h19 n19 rfl y19 x19
  refine zf ?_
  exact rfl
 obtain ⟨p11,q11⟩:=m11 rfl
 have d11:=p11.b1
 have e11:=p11.b2
 have f11:=q11.b1
 have g11:=q11.b2
 refine zG ?_
 refine sA ?_
 intro h20 p20 x20
 refine sA ?_
 intro h21 p21 x21
 refine sS [.int .i64 sx11,.int .i64 sy11] ?_
 intro h22 p22 o22
 refine sS [.int .i64 su11,.int .i64 sv11] ?_
 intro h23 p23 o23
 refine zG ?_
 have b24:=mul9 (a:=sx11) (b:=sv11) zo zo
 refine st_mul rfl rfl rfl rfl rfl rfl zo ?_
 refine zG ?_
 have b25:=mul9 (a:=su11) (b:=sy11) zo zo
 refine st_mul rfl rfl rfl rfl rfl rfl zo ?_
 refine zG ?_
 have b26:=zht (a:=sy11) (b:=sv11) zo zo
 refine st_mul rfl rfl rfl rfl rfl rfl zo ?_
 refine sC (mH _ (g.x zx) (N:=((sx11*sv11)+(su11*sy11))) (D:=(sy11*sv11)) zo zo) ?_
 rintro _ h27 n27 rfl y27 x27
 refine zf ?_
 exact by rw [SR.add p11 q11];rfl
theorem mulS (k:Nat)(g:GG h n){a b:List UInt8}(ha:TL a)(hb:TL b){p q r:Nat}(sa:Sz p (zk a))(sb:Sz q (zk b))(hpq:p+q+1≤2496)(sr:Sz r (zk a*zk b))(hr:r≤1920):VF (cal (k+11)) 9 [.string ⟨⟨a⟩⟩,.string ⟨⟨b⟩⟩] h n fun v=>v=.string ⟨⟨ratT (zk a*zk b)⟩⟩:=by
 refine zB (fn:=Tryz.f9) R4 ?_
 refine zG ?_
 refine sC (jU _ ha.1 hb.1) ?_
 rintro _ h11 n11 ⟨sx11,sy11,su11,sv11,ok11,rfl,m11⟩ y11 x11
 cases ok11
 ·refine zG ?_
  refine sA ?_
  intro h12 p12 x12
  refine sA ?_
  intro h13 p13 x13
  refine sS [.int .i64 sx11,.int .i64 sy11] ?_
  intro h14 p14 o14
  refine sS [.int .i64 su11,.int .i64 sv11] ?_
  intro h15 p15 o15
  refine zG ?_
  refine sC (jF _ (g.x zx) ha) ?_
  rintro _ h16 n16 ⟨b16,a16,l16,c16,d16,e16,f16,g16,rfl,i16,j16⟩ y16 x16
  refine zG ?_
  refine sC (jF _ (g.x zx) hb) ?_
  rintro _ h17 n17 ⟨b17,a17,l17,c17,d17,e17,f17,g17,rfl,i17,j17⟩ y17 x17
  refine sC (mulQ _ (g.x zx) (i16.t zt) (j16.t zt) i17 j17 sa sb zo) ?_
  rintro _ h18 n18 ⟨b18,a18,l18,c18,d18,e18,f18,g18,rfl,i18,j18⟩ y18 x18
  refine sC ((vX _ (g.x zx).1 (g.x zx).2 i18 j18 sr hr).cx) ?_
  rintro _ h19 n19 rfl y19 x19
  refine zf ?_
  exact rfl
 obtain ⟨p11,q11⟩:=m11 rfl
 have d11:=p11.b1
 have e11:=p11.b2
 have f11:=q11.b1
 have g11:=q11.b2
 refine zG ?_
 refine sA ?_
 intro h20 p20 x20
 refine sA ?_
 intro h21 p21 x21
 refine sS [.int .i64 sx11,.int .i64 sy11] ?_
 intro h22 p22 o22
 refine sS [.int .i64 su11,.int .i64 sv11] ?_
 intro h23 p23 o23
 refine zG ?_
 have b24:=mul9 (a:=sx11) (b:=su11) zo zo
 refine st_mul rfl rfl rfl rfl rfl rfl zo ?_
 refine zG ?_
 have b25:=zht (a:=sy11) (b:=sv11) zo zo
 refine st_mul rfl rfl rfl rfl rfl rfl zo ?_
 refine sC (mH _ (g.x zx) (N:=(sx11*su11)) (D:=(sy11*sv11)) zo zo) ?_
 rintro _ h26 n26 rfl y26 x26
 refine zf ?_
 exact by rw [SR.mul p11 q11];rfl
end
section
variable {b bt cap cx cy fx fy gx gy j len lx ly m off:Nat}{a ax ay ex ey:Option Addr}{z:Value}{dx dy sx sy:Bool}
def bndP (c:List Value)(p:Bool×Rat)(h:HF)(n:Nat):Prop:=∃b a l k d e f g,c=[.bool p.1,.bool b,.slice a l k,.bool d,.slice e f g]∧IW h n b a l k p.2.num∧IW h n d e f g (denZ p.2)
theorem bndP.kp:KP 5 bndP:=⟨fun ⟨b,a,l,k,d,e,f,g,e1,i,j⟩ t=>⟨b,a,l,k,d,e,f,g,e1,i.t t,j.t t⟩,fun ⟨b,a,l,k,d,e,f,g,e1,i,j⟩=>by subst e1;exact ⟨rfl,rfl,rfl⟩⟩
def natP (c:List Value)(m:Nat)(_:HF)(_:Nat):Prop:=c=[.int .i64 (m:Int)]
theorem natP.kp:KP 1 natP:=⟨fun e _=>e,fun e=>by cases e;exact ⟨rfl,rfl,rfl⟩⟩
def rwP (c:List Value)(r:Nat×List Int)(_:HF)(_:Nat):Prop:=c=[.slice (some ⟨r.1,0,none⟩) r.2.length r.2.length]
theorem rwP.kp:KP 1 rwP:=⟨fun e _=>e,fun e=>by cases e;exact ⟨rfl,rfl,rfl⟩⟩
section
variable {D:Type}{sz:Nat}{P:List Value→D→HF→Nat→Prop}{lo n n':Nat}{h h':HF}{e e':TypeId}{v:Value}{ds:List D}
theorem GR.rs (g:GR sz P lo h n e v ds):RS sz P h n v ds:=by
 obtain ⟨C,g1,g2,_⟩:=g
 exact ⟨C,g1.sl,g2⟩
theorem GR.ext (g:GR sz P lo h n e v ds)(kp:KP sz P)(x:Ext n h h')(hn:n≤n'):GR sz P lo h' n' e v ds:=g.go kp ⟨hn,fun c hc=>.inl (x c hc)⟩ fun b hb=>x b (g.bk b hb).2.1
theorem GR.ty (g:GR sz P lo h n e v ds)(hb:BkOf v b):Ty1 h b e:=by
 obtain ⟨C,g1,_,_⟩:=g
 obtain ⟨o,l,c,rfl⟩:=hb
 generalize ds.length=L at g1
 cases g1 with
 |at_ hg hlo hb hr hl ho=>exact ⟨_,hr⟩
end
theorem Ty1.eq {h:HF}{e e':TypeId}(x:Ty1 h b e)(y:Ty1 h b e'):e=e':=by
 obtain ⟨C,x⟩:=x
 obtain ⟨C',y⟩:=y
 rw [x] at y
 cases y
 rfl
section
variable {D D':Type}{sz sz':Nat}{P:List Value→D→HF→Nat→Prop}{P':List Value→D'→HF→Nat→Prop}{l l' n n' bs:Nat}{h h':HF}{e e':TypeId}{v u:Value}{ds:List D}{ds':List D'}
theorem GR.ne (g:GR sz P l h n e v ds)(g':GR sz' P' l' h n e' u ds')(he:e≠e'):∀b,BkOf v b→¬BkOf u b:=fun b hb hu=>he ((g.ty hb).eq (g'.ty hu))
theorem GR.kb (g:GR sz P l h n e v ds)(kp:KP sz P)(T:Tr n h n' h')(gb:gro bs=false)(K:∀b,b<3*n→b≠bs→¬BkOf u b→h' b=h b)(hd:∀b,BkOf v b→¬BkOf u b):GR sz P l h' n' e v ds:=
 g.go kp T fun b hb=>K b (g.bk b hb).2.1 (fun e=>by have:=(g.bk b hb).2.2.1;rw [e,gb] at this;cases this) (hd b hb)
theorem GR.nbk (g:GR sz P l h n e v ds)(gb:gro b=false):¬BkOf v b:=fun hb=>by
 have:=(g.bk b hb).2.2.1
 rw [gb] at this
 cases this
end
structure Exo (n:Nat)(h h':HF):Prop where
 go:Ext n h h'
abbrev BS (h:HF)(n:Nat)(v:Value)(l:List (Bool×Rat)):Prop:=RS 5 bndP h n v l
theorem BS.at {h:HF}{n:Nat}{l:List (Bool×Rat)}{p:Bool×Rat}(r:BS h n (.slice a len cap) l)(hj:l[j]?=some p):∃bb off b a2 l2 k d e f g,a=some ⟨bb,off,none⟩∧bb<3*n∧j<len∧At h bb (off+j*5) [.bool p.1,.bool b,.slice a2 l2 k,.bool d,.slice e f g]∧IW h n b a2 l2 k p.2.num∧IW h n d e f g (denZ p.2):=by
 obtain ⟨bb,off,c,h1,h2,h3,h4,_,b,a2,l2,k,d,e,f,g,rfl,i,j⟩:=RS.at' zd r hj
 exact ⟨bb,off,b,a2,l2,k,d,e,f,g,h1,h2,h3,h4,i,j⟩
theorem natS.at {h:HF}{n:Nat}{l:List Nat}(r:RS 1 natP h n (.slice a len cap) l)(hj:l[j]?=some m):∃bb off,a=some ⟨bb,off,none⟩∧bb<3*n∧j<len∧At h bb (off+j*1) [.int .i64 (m:Int)]:=by
 obtain ⟨bb,off,c,h1,h2,h3,h4,_,rfl⟩:=RS.at' zd r hj
 exact ⟨bb,off,h1,h2,h3,h4⟩
theorem rwS.at {h:HF}{n:Nat}{l:List (Nat×List Int)}{m:Nat×List Int}(r:RS 1 rwP h n (.slice a len cap) l)(hj:l[j]?=some m):∃bb off,a=some ⟨bb,off,none⟩∧bb<3*n∧j<len∧At h bb (off+j*1) [.slice (some ⟨m.1,0,none⟩) m.2.length m.2.length]:=by
 obtain ⟨bb,off,c,h1,h2,h3,h4,_,rfl⟩:=RS.at' zd r hj
 exact ⟨bb,off,h1,h2,h3,h4⟩
structure Sol where
 n:Nat
 sc:List Rat
 lo:List (Bool×Rat)
 hi:List (Bool×Rat)
 va:List Rat
 ba:List Nat
 nb:List Nat
 ta:List (Nat×List Int)
 den:Int
structure Adr where
 sc:Option Addr
 lo:Option Addr
 hi:Option Addr
 va:Option Addr
 ba:Option Addr
 nb:Option Addr
 ta:Option Addr
def Sol.cs (d:Sol)(A:Adr)(x y:Value):List Value:=[.int .i64 (d.n:Int),.slice A.sc d.sc.length d.sc.length,.slice A.lo d.lo.length d.lo.length,.slice A.hi d.hi.length d.hi.length,.slice A.va d.va.length d.va.length,.slice A.ba d.ba.length d.ba.length,.slice A.nb d.nb.length d.nb.length,.slice A.ta d.ta.length d.ta.length,x,y]
structure SM (l:Nat)(h:HF)(n bs:Nat)(d:Sol)(A:Adr):Prop where
 st:∃b a u c ty,h bs=some (.row [.int .i64 (d.n:Int),.slice A.sc d.sc.length d.sc.length,.slice A.lo d.lo.length d.lo.length,.slice A.hi d.hi.length d.hi.length,.slice A.va d.va.length d.va.length,.slice A.ba d.ba.length d.ba.length,.slice A.nb d.nb.length d.nb.length,.slice A.ta d.ta.length d.ta.length,.bool b,.slice a u c] ty)∧IW h n b a u c d.den
 bs:bs<3*n∧gro bs=false
 sc:GR 4 ratP l h n 49 (.slice A.sc d.sc.length d.sc.length) d.sc
 lo:GR 5 bndP l h n 105 (.slice A.lo d.lo.length d.lo.length) d.lo
 hi:GR 5 bndP l h n 105 (.slice A.hi d.hi.length d.hi.length) d.hi
 va:GR 4 ratP l h n 49 (.slice A.va d.va.length d.va.length) d.va
 ba:GR 1 natP l h n 3 (.slice A.ba d.ba.length d.ba.length) d.ba
 nb:GR 1 natP l h n 3 (.slice A.nb d.nb.length d.nb.length) d.nb
 ta:GR 1 rwP l h n 73 (.slice A.ta d.ta.length d.ta.length) d.ta
 rw:∀r∈d.ta,OZ h n r.1 r.2∧gro r.1=false
 dj:∀b,BkOf (.slice A.va d.va.length d.va.length) b→¬BkOf (.slice A.sc d.sc.length d.sc.length) b
section
variable {l n n' bs:Nat}{h h':HF}{d:Sol}{A:Adr}
theorem SM.ext (s:SM l h n bs d A)(x:Ext n h h')(hn:n≤n'):SM l h' n' bs d A:=by
 obtain ⟨b,a,u,c,ty,e,i⟩:=s.st
 have:=s.bs
 exact ⟨⟨b,a,u,c,ty,(x _ s.bs.1).trans e,i.ext x hn⟩,⟨zo,s.bs.2⟩,s.sc.ext ratP.kp x hn,s.lo.ext bndP.kp x hn,s.hi.ext bndP.kp x hn,s.va.ext ratP.kp x hn,s.ba.ext natP.kp x hn,s.nb.ext natP.kp x hn,s.ta.ext rwP.kp x hn,fun r hr=>⟨(s.rw r hr).1.ext intP.kp x hn,(s.rw r hr).2⟩,s.dj⟩
theorem SM.x (s:SM l h n bs d A)(t:Tx n h n' h'):SM l h' n' bs d A:=s.ext t.2 t.1
theorem SM.mv (s:SM l h n bs d A){bv:Nat}{va:List Rat}(hA:A.va=some ⟨bv,0,none⟩)(S:Sto bv h h')(hl:va.length=d.va.length)(o:GR 4 ratP l h' n 49 (.slice A.va va.length va.length) va):SM l h' n bs {d with va:=va} A:=by
 obtain ⟨b,a,u,c,ty,e,i⟩:=s.st
 have hbv:BkOf (.slice A.va d.va.length d.va.length) bv:=⟨_,_,_,by rw [hA]⟩
 have tv:=s.va.ty hbv
 have gv:=(s.va.bk bv hbv).2.2.1
 have T:Tr n h n h':=Tr.s S (Tr.refl _ _)
 have k:∀{sz:Nat} {D:Type} {P:List Value→D→HF→Nat→Prop} {ds:List D} {v:Value} {e:TypeId},GR sz P l h n e v ds→e≠49→∀b,BkOf v b→h' b=h b:=fun g he b hb=>S.1 b fun e2=>he ((e2▸g.ty hb).eq tv)
 refine ⟨⟨b,a,u,c,ty,?_,i.t T⟩,s.bs,s.sc.go ratP.kp T fun b hb=>S.1 b fun e2=>s.dj bv hbv (e2▸hb),s.lo.go bndP.kp T (k s.lo zd),s.hi.go bndP.kp T (k s.hi zd),o,s.ba.go natP.kp T (k s.ba zd),s.nb.go natP.kp T (k s.nb zd),s.ta.go rwP.kp T (k s.ta zd),fun r hr=>⟨(s.rw r hr).1.go intP.kp T (S.1 _ fun e2=>by have:=(s.rw r hr).2;rw [e2,gv] at this;cases this),(s.rw r hr).2⟩,fun b hb=>?_⟩
 ·have hne:bs≠bv:=fun e2=>by have:=s.bs.2;rw [e2,gv] at this;cases this
  show h' bs=some (.row [_,_,_,_,.slice A.va va.length va.length,_,_,_,_,_] ty)
  rw [hl,S.1 bs hne]
  exact e
 obtain ⟨o',l',c',e2⟩:=hb
 injection e2 with e2
 exact s.dj b ⟨o',_,_,by rw [e2]⟩
end
section
variable {X:CtxF}{ops r:List Oper}{t:TF}{h:HF}{n:Nat}{w:List Nat}{Q:SV→Prop}{o:Oper}{n0:Nat}
theorem sZw {D:Type}{sz:Nat}{P:List Value→D→HF→Nat→Prop}{ty:TypeId}{a x:Operand}{zs:List D}{q:D}(c:List Value)(og:OR sz P h n b zs)(kp:KP sz P)(hj:j<zs.length)(hoff:off=j*sz)(i1:P c q h n)(k:∀h',OR sz P h' n b (zs.set j q)→Sto b h h'→(∀e,Ty1 h b e→Ty1 h' b e)→EO X ops r ⟨t,h',n,addW n0 [b] w⟩ Q)(hw:zh ops t o=true:=by exact rfl)(hd:o.dst=none:=by exact rfl)(ho:o.op=.store ty a x:=by exact rfl)(hi:X.E.inf ty=some (sz,bt,z):=by exact rfl)(ha:evF t a=.pointer (some ⟨b,off,none⟩):=by exact rfl)(hx:zl (evF t x)=c:=by exact rfl)(hX:X.n0=n0:=by exact rfl):EO X ops (o::r) ⟨t,h,n,w⟩ Q:=by
 have og':=og
 obtain ⟨hb,C,e,y1,y2,y3⟩:=og
 have hlen:=y3.len
 obtain ⟨c1,c2,c3⟩:=kp.c i1
 have hsz:j*sz+sz≤zs.length*sz:=by
  have:=Nat.mul_le_mul_right sz (show j+1≤zs.length from hj)
  rw [Nat.add_mul,Nat.one_mul] at this
  exact this
 subst hoff
 rw [rz hw (by rw [hd];rfl) (by rw [ho];rfl) (by rw [ho];exact wc hi ha (by rw [hx];exact c1) (by rw [hx];exact c3) y1 zo),hd,hx,hX]
 have s:=og'.set (h':=upd h b (some (.row (zm C (j*sz) c) e))) kp y1 hj i1 (zg _ _ _) (fun c hc=>zj hc)
 exact k _ s.1 s.2 fun e' ⟨C',hC'⟩=>by
  rw [y1] at hC'
  cases hC'
  exact ⟨_,zg _ _ _⟩
theorem sZt {D:Type}{sz:Nat}{P:List Value→D→HF→Nat→Prop}{ty:TypeId}{a x:Operand}{zs:List D}{q:D}(c:List Value)(og:OR sz P h n b zs)(kp:KP sz P)(hj:j<zs.length)(hoff:off=j*sz)(i1:P c q h n)(hnew:3*n0≤b)(k:∀h',OR sz P h' n b (zs.set j q)→Sto b h h'→(∀e,Ty1 h b e→Ty1 h' b e)→EO X ops r ⟨t,h',n,w⟩ Q)(hw:zh ops t o=true:=by exact rfl)(hd:o.dst=none:=by exact rfl)(ho:o.op=.store ty a x:=by exact rfl)(hi:X.E.inf ty=some (sz,bt,z):=by exact rfl)(ha:evF t a=.pointer (some ⟨b,off,none⟩):=by exact rfl)(hx:zl (evF t x)=c:=by exact rfl)(hX:X.n0=n0:=by exact rfl):EO X ops (o::r) ⟨t,h,n,w⟩ Q:=
 sZw c og kp hj hoff i1 (fun h' o' s' e'=>by rw [wM hnew];exact k h' o' s' e') hw hd ho hi ha hx hX
end
structure SZ (d:Sol)(a:Nat):Prop where
 va:∀q∈d.va,Sz a q
 lo:∀q∈d.lo,Sz a q.2
 hi:∀q∈d.hi,Sz a q.2
 ll:d.lo.length=d.va.length
 lh:d.hi.length=d.va.length
 ls:d.sc.length=d.va.length
 nb:∀v∈d.nb,v<d.va.length
 ln:d.nb.length<1000
 lt:d.ta.length<1000
theorem negQ (k:Nat){h:HF}{n:Nat}{x:Rat}(ix:IW h n sx ax lx cx x.num)(jx:IW h n dx ex fx gx (denZ x)):CX (cal (k+3)) 123 [.agg #[.bool sx,.slice ax lx cx,.bool dx,.slice ex fx gx]] h n (QV (-x)):=by
 refine zv (fn:=Tryz.f123) R4 ?_
 refine zG ?_
 refine sB [.bool sx,.slice ax lx cx,.bool dx,.slice ex fx gx] ?_
 intro h1 p1 x1
 refine sA ?_
 intro h2 p2 x2
 refine zG ?_
 refine zu [0,1,3,0,8,31,63] rfl ?_
 refine zH ?_
 refine dC (negX _ (ix.x zx)) ?_
 rintro _ h3 n3 ⟨b3,a3,l3,c3,rfl,i3⟩ y3 x3
 refine zH ?_
 refine dT #[.bool b3,.slice a3 l3 c3,.bool dx,.slice ex fx gx] ?_
 refine dS [.bool b3,.slice a3 l3 c3,.bool dx,.slice ex fx gx] ?_
 intro h4 p4 o4
 refine zq ?_
 exact ⟨_,_,_,_,_,_,_,_,rfl,(i3.t zt).as (by rw [Rat.neg_num]),(jx.t zt).as (by unfold denZ;rw [Rat.neg_den])⟩
theorem subQ (k:Nat){h:HF}{n:Nat}{x:Rat}{y:Rat}(g:GG h n)(ix:IW h n sx ax lx cx x.num)(jx:IW h n dx ex fx gx (denZ x))(iy:IW h n sy ay ly cy y.num)(jy:IW h n dy ey fy gy (denZ y)){a:Nat}(hx:Sz a x)(hy:Sz b y)(hab:a+b+1≤2496):CX (cal (k+10)) 92 [.agg #[.bool sx,.slice ax lx cx,.bool dx,.slice ex fx gx],.agg #[.bool sy,.slice ay ly cy,.bool dy,.slice ey fy gy]] h n (QV (x-y)):=by
 refine zv (fn:=Tryz.f92) R4 ?_
 refine zG ?_
 refine sB [.bool sx,.slice ax lx cx,.bool dx,.slice ex fx gx] ?_
 intro h1 p1 x1
 refine sB [.bool sy,.slice ay ly cy,.bool dy,.slice ey fy gy] ?_
 intro h2 p2 x2
 refine sA ?_
 intro h3 p3 x3
 refine zG ?_
 refine zu [0,0,2,7,15] rfl ?_
 refine zH ?_
 refine dC (negQ _ (iy.x zx) (jy.x zx)) ?_
 rintro _ h4 n4 ⟨b4,a4,l4,c4,d4,e4,f4,g4,rfl,i4,j4⟩ y4 x4
 refine dC (addQ _ (g.x zx) (ix.x zx) (jx.x zx) i4 j4 hx hy.neg hab) ?_
 rintro _ h5 n5 ⟨b5,a5,l5,c5,d5,e5,f5,g5,rfl,i5,j5⟩ y5 x5
 refine dS [.bool b5,.slice a5 l5 c5,.bool d5,.slice e5 f5 g5] ?_
 intro h6 p6 o6
 refine zq ?_
 rw [←Rat.sub_eq_add_neg] at i5 j5
 exact ⟨_,_,_,_,_,_,_,_,rfl,i5.t zt,j5.t zt⟩
end
section
variable {h:HF}{cx cy lx ly n:Nat}{sx sy:Bool}{ax ay:Option Addr}
theorem zfq (a b:Nat):a*(b/Nat.gcd a b)=((Nat.lcm a b:Nat):Int).natAbs:=by
 rw [Int.natAbs_natCast,Nat.lcm,Nat.mul_div_assoc _ (Nat.gcd_dvd_right a b)]
theorem lcmX (k:Nat){x:Int}{y:Int}(g:GG h n)(ix:IW h n sx ax lx cx x)(iy:IW h n sy ay ly cy y)(hx:x.natAbs<BW)(hy:y.natAbs<BW):CX (cal (k+8)) 99 [.agg #[.bool sx,.slice ax lx cx],.agg #[.bool sy,.slice ay ly cy]] h n (IV ((Nat.lcm x.natAbs y.natAbs:Nat):Int)):=by
 refine zv (fn:=Tryz.f99) R4 ?_
 refine zG ?_
 refine sB [.bool sx,.slice ax lx cx] ?_
 intro h11 p11 x11
 refine sB [.bool sy,.slice ay ly cy] ?_
 intro h12 p12 x12
 refine sA ?_
 intro h13 p13 x13
 refine zG ?_
 by_cases q14:(lx:Int)=0
 ·refine zG ?_
  refine sT #[.bool false,.slice none 0 0] ?_
  refine sS [.bool false,.slice none 0 0] ?_
  intro h15 p15 o15
  refine zq ?_
  exact ⟨_,_,_,_,rfl,(IW.zero _ _).as (by have:=ix.2.zero;have:=iy.2.zero;rcases (show x.natAbs=0∨y.natAbs=0 by omega) with e|e<;>rw [e]<;>simp)⟩
 refine zG ?_
 by_cases q16:(ly:Int)=0
 ·refine zG ?_
  refine sT #[.bool false,.slice none 0 0] ?_
  refine sS [.bool false,.slice none 0 0] ?_
  intro h17 p17 o17
  refine zq ?_
  exact ⟨_,_,_,_,rfl,(IW.zero _ _).as (by have:=ix.2.zero;have:=iy.2.zero;rcases (show x.natAbs=0∨y.natAbs=0 by omega) with e|e<;>rw [e]<;>simp)⟩
 refine zG ?_
 have hy0:y.natAbs≠0:=fun e=>q16 (by have:=iy.2.zero;omega)
 refine zu [0,1,0,4,0,16,60,127,255,511,511,1023,4095] rfl ?_
 refine zH ?_
 refine dC (zh1 _ (g.t zt) (ix.t zt).2 (iy.t zt).2 zhh) ?_
 rintro _ h18 n18 ⟨a18,l18,c18,rfl,i18⟩ y18 x18
 refine dC (zh9 _ (iy.t zt).2 i18 ⟨hy,Nat.lt_of_le_of_lt (Nat.gcd_le_right _ (Nat.pos_of_ne_zero hy0)) hy⟩ (by have:=Nat.gcd_pos_of_pos_right x.natAbs (Nat.pos_of_ne_zero hy0);omega)) ?_
 rintro _ h19 n19 ⟨a19,l19,c19,d19,e19,f19,rfl,i19,j19⟩ y19 x19
 refine zJ ?_
 refine sC (cH _ (ix.t zt).2 i19 ⟨hx,Nat.lt_of_le_of_lt (Nat.div_le_self _ _) hy⟩) ?_
 rintro _ h20 n20 ⟨a20,l20,c20,rfl,i20⟩ y20 x20
 refine sT #[.bool false,.slice a20 l20 c20] ?_
 refine sS [.bool false,.slice a20 l20 c20] ?_
 intro h21 p21 o21
 refine zq ?_
 exact ⟨_,_,_,_,rfl,by rw [decide_eq_false];exact Int.not_lt.2 (Int.natCast_nonneg _),(i20.t zt).as (zfq _ _)⟩
end
def lcmD:List Rat→Nat→Nat
 |[],m=>m
 |q::l,m=>lcmD l (Nat.lcm m q.den)
theorem qz:∀{l:List Rat} {q:Rat} {m:Nat},lcmD (l++[q]) m=Nat.lcm (lcmD l m) q.den:=by
 intro l
 induction l with
 |nil=>intro q m;rfl
 |cons x l ih=>intro q m;exact ih
theorem zb0 {D:Nat}:∀{l:List Rat} {m:Nat},(∀q∈l,q.den∣D)→m∣D→lcmD l m∣D:=by
 intro l
 induction l with
 |nil=>intro m _ h;exact h
 |cons x l ih=>intro m h1 h2;exact ih (fun q hq=>h1 q (List.mem_cons_of_mem _ hq)) (Nat.lcm_dvd h2 (h1 x (List.mem_cons_self ..)))
theorem be:∀{l:List Rat} {m:Nat},m∣lcmD l m:=by
 intro l
 induction l with
 |nil=>intro m;exact Nat.dvd_refl m
 |cons x l ih=>intro m;exact Nat.dvd_trans (Nat.dvd_lcm_left _ _) ih
theorem iI:∀{l:List Rat} {m:Nat} {q:Rat},q∈l→q.den∣lcmD l m:=by
 intro l
 induction l with
 |nil=>intro m q h;cases h
 |cons x l ih=>
  intro m q h
  rcases List.mem_cons.1 h with rfl|h
  ·exact Nat.dvd_trans (Nat.dvd_lcm_right _ _) be
  exact ih h
theorem iH {l:List Rat}:∀{m:Nat},0<m→0<lcmD l m:=by
 induction l with
 |nil=>intro m h;exact h
 |cons x l ih=>intro m h;exact ih (Nat.lcm_pos h x.den_pos)
theorem fw (q:Rat):q*(q.den:Rat)=(q.num:Rat):=by
 have h:=Rat.num_divInt_den q
 have hd:((q.den:Int):Rat)≠0:=fun e=>by have:=wP.1 e;have:=q.den_pos;omega
 rw [Rat.divInt_eq_div,Rat.div_def] at h
 rw [←Rat.intCast_natCast]
 have h2:(q.num:Rat)*((q.den:Int):Rat)⁻¹ *((q.den:Int):Rat)=q.num:=by rw [Rat.mul_assoc,Rat.inv_mul_cancel _ hd,Rat.mul_one]
 rw [h] at h2
 exact h2
def nfZ (den:Nat)(x:Rat):Int:=x.num*(den:Int).tdiv (x.den:Int)
theorem zdt {den:Nat}{x:Rat}(h:x.den∣den):((nfZ den x:Int):Rat)=x*(den:Rat):=by
 obtain ⟨m,rfl⟩:=h
 have hp:=x.den_pos
 unfold nfZ
 rw [Int.natCast_mul,Int.mul_tdiv_cancel_left _ zo,Rat.intCast_mul,←fw x,Rat.natCast_mul,Rat.mul_assoc,Rat.intCast_natCast]
def FN (D B:Nat)(q:Rat):Prop:=∃z:Int,q*(D:Rat)=(z:Rat)∧z.natAbs≤B
def gcF (f:Nat→Int):Nat→Nat
 |0=>0
 |j+1=>Nat.gcd (gcF f j) (f j).natAbs
theorem br {f:Nat→Int}:∀{m j:Nat},j<m→gcF f m∣(f j).natAbs:=by
 intro m
 induction m with
 |zero=>intro j h;omega
 |succ m ih=>
  intro j h
  rcases Nat.lt_or_ge j m with h1|h1
  ·exact Nat.dvd_trans (Nat.gcd_dvd_left _ _) (ih h1)
  rw [show j=m by omega];exact Nat.gcd_dvd_right _ _
theorem zh2 {f:Nat→Int}(hB:∀j,j<m→(f j).natAbs≤B):gcF f m≤B:=by
 induction m with
 |zero=>exact Nat.zero_le _
 |succ m ih=>
  have h1:=ih fun j hj=>hB j zo
  have h2:=hB m zo
  show Nat.gcd (gcF f m) (f m).natAbs≤B
  by_cases h0:gcF f m=0
  ·rw [h0,Nat.gcd_zero_left];exact h2
  exact Nat.le_trans (Nat.gcd_le_left _ (Nat.pos_of_ne_zero h0)) h1
def ccF (f:Nat→Int)(m:Nat):Nat:=if gcF f m=0 then 1 else gcF f m
theorem jf {f:Nat→Int}:0<ccF f m:=by
 unfold ccF
 split
 ·decide
 omega
theorem zge {f:Nat→Int}{j:Nat}(h:j<m):((ccF f m:Nat):Int)∣f j:=by
 unfold ccF
 split
 ·exact Int.one_dvd _
 exact Int.ofNat_dvd_left.2 (br h)
def rowQ (N:Nat)(a:Nat→Nat→Rat)(i:Nat):List Rat:=(List.range N).map (a i)
def deni (N:Nat)(a:Nat→Nat→Rat)(i:Nat):Nat:=lcmD (rowQ N a i) 1
def nfi (N:Nat)(a:Nat→Nat→Rat)(i j:Nat):Int:=nfZ (deni N a i) (a i j)
def cci (N:Nat)(a:Nat→Nat→Rat)(i:Nat):Nat:=ccF (nfi N a i) N
def tT (N:Nat)(a:Nat→Nat→Rat)(i j:Nat):Int:=(nfi N a i j).tdiv (cci N a i:Int)
def tS (N:Nat)(a:Nat→Nat→Rat)(i:Nat):Rat:=Rat.divInt (deni N a i:Int) (cci N a i:Int)
section
variable {N:Nat}{a:Nat→Nat→Rat}{i j:Nat}
theorem ze6 (hj:j<N):a i j∈rowQ N a i:=List.mem_map.2 ⟨j,List.mem_range.2 hj,rfl⟩
theorem iZ:0<deni N a i:=iH zd
theorem hH (hj:j<N):(a i j).den∣deni N a i:=iI (ze6 hj)
theorem zgf (h:0<m):((m:Int):Rat)≠0:=fun e=>by have:=wP.1 e;omega
theorem zg4:tS N a i=(deni N a i:Int)/((cci N a i:Int):Rat):=by
 unfold tS
 rw [Rat.divInt_eq_div]
theorem nq:0<tS N a i:=by
 rw [zg4,Rat.div_def]
 have h1:(0:Rat)<((deni N a i:Int):Rat):=Rat.intCast_pos.2 (by have:=iZ (N:=N) (a:=a) (i:=i);omega)
 have h2:(0:Rat)<((cci N a i:Int):Rat):=Rat.intCast_pos.2 (by have:=jf (f:=nfi N a i) (m:=N);unfold cci;omega)
 exact Rat.mul_pos h1 (Rat.inv_pos.2 h2)
theorem zg3 (hj:j<N):((tT N a i j:Int):Rat)=tS N a i*a i j:=by
 have hd:=zge (f:=nfi N a i) hj
 have hc:((cci N a i:Int):Rat)≠0:=zgf (jf (f:=nfi N a i) (m:=N))
 obtain ⟨z,hz⟩:=hd
 have h1:nfi N a i j=(cci N a i:Int)*z:=hz
 have h0:(cci N a i:Int)≠0:=by have:=jf (f:=nfi N a i) (m:=N);unfold cci;omega
 have e:=zdt (hH (N:=N) (a:=a) (i:=i) hj)
 have e2:((nfi N a i j:Int):Rat)=a i j*(deni N a i:Rat):=e
 unfold tT
 rw [h1,Int.mul_tdiv_cancel_left _ h0]
 rw [h1,Rat.intCast_mul] at e2
 rw [zg4,Rat.div_def,Rat.mul_assoc,Rat.mul_comm _ (a i j),←Rat.mul_assoc,Rat.mul_comm _ (a i j),Rat.intCast_natCast (deni N a i),←e2,Rat.mul_comm _ (z:Rat),Rat.mul_assoc,Rat.mul_inv_cancel _ hc,Rat.mul_one]
theorem du:TabR N (tT N a) 1 (tS N a) a 0:=by
 intro i j _ _ _ hj
 rw [zg3 hj]
 show _=(1:Rat)*tS N a i*a i j
 rw [Rat.one_mul]
end
section
variable {j n:Nat}{q:Rat}{h:HF}{aq:Option Addr}{qs:List Rat}
theorem bc {D:Nat}{l:List Rat}(hD:0<D)(hb:D<BW)(hd:∀q∈l,q.den∣D):((lcmD (l.take j) 1:Nat):Int).natAbs<BW:=by
 rw [Int.natAbs_natCast]
 exact Nat.lt_of_le_of_lt (Nat.le_of_dvd hD (zb0 (fun q hq=>hd q (List.mem_of_mem_take hq)) (Nat.one_dvd _))) hb
theorem ga {D:Nat}(hD:0<D)(hb:D<BW)(hd:q.den∣D):(denZ q).natAbs<BW:=by
 have h:=Nat.lt_of_le_of_lt (Nat.le_of_dvd hD hd) hb
 unfold denZ
 split
 ·exact Nat.lt_of_le_of_lt (Nat.zero_le _) hb
 rw [Int.natAbs_natCast];exact h
theorem cO {l:List Rat}(g:l[j]?=some q)(h:denZ q=0):((lcmD (l.take j) 1:Nat):Int)=((lcmD (l.take (j+1)) 1:Nat):Int):=by
 rw [yV g,qz,yf.1 h,Nat.lcm_one_right]
theorem cU {l:List Rat}(g:l[j]?=some q)(h0:¬denZ q=0)(h:denZ q=((lcmD (l.take j) 1:Nat):Int)):((lcmD (l.take j) 1:Nat):Int)=((lcmD (l.take (j+1)) 1:Nat):Int):=by
 rw [xO h0] at h
 have h:q.den=lcmD (l.take j) 1:=Int.ofNat.inj h
 rw [yV g,qz,←h,Nat.lcm_self]
theorem cW {l:List Rat}(g:l[j]?=some q)(h0:¬denZ q=0):((Nat.lcm ((lcmD (l.take j) 1:Nat):Int).natAbs (denZ q).natAbs:Nat):Int)=((lcmD (l.take (j+1)) 1:Nat):Int):=by
 rw [xO h0,Int.natAbs_natCast,Int.natAbs_natCast,yV g,qz]
theorem zgc (k:Nat)(g:GG h n){lq cq:Nat}(iq:QS h n (.slice aq lq cq) qs){D:Nat}(hD:0<D)(hb:D<BW)(hd:∀q∈qs,q.den∣D)(hl:qs.length<1000000):CX (cal (k+9)) 68 [.slice aq lq cq] h n (IV ((lcmD qs 1:Nat):Int)):=by
 have lq1:=iq.len
 refine zv (fn:=Tryz.f68) R4 ?_
 refine zG ?_
 refine sA ?_
 intro h11 p11 x11
 refine zG ?_
 refine sC (zbs _ _ _) ?_
 rintro _ h12 n12 ⟨b12,a12,l12,c12,rfl,i12⟩ y12 x12
 refine sA ?_
 intro h13 p13 x13
 refine sS [.bool b12,.slice a12 l12 c12] ?_
 intro h14 p14 o14
 refine zG ?_
 refine sF (α:=Nat×Bool×Option Addr×Nat×Nat) (fun z=>[(2,.pointer (some ⟨3*n+2,0,none⟩)),(3,.pointer (some ⟨3*n12+2,0,none⟩)),(7,.slice aq lq cq),(8,.int .i64 (lq:Int)),(9,.int .i64 (z.1:Int))]) (fun z h' n' w'=>w'=[]∧n12+1≤n'∧ExtB (n12+1) [3*n12+2] h14 h'∧h' (3*n12+2)=some (.row [.bool z.2.1,.slice z.2.2.1 z.2.2.2.1 z.2.2.2.2] 47)∧IW h' n' z.2.1 z.2.2.1 z.2.2.2.1 z.2.2.2.2 (((lcmD (qs.take z.1) 1:Nat):Int))∧z.1≤qs.length) (fun z=>qs.length-z.1) (0,b12,a12,l12,c12) ⟨rfl,Nat.le_refl _,ExtB.refl _ _ _,p14,((i12.t zt).as (by rw [List.take_zero];rfl)),(Nat.zero_le _)⟩ ?_
 rintro ⟨j,bS,aS,lS,kS⟩ t h15 n15 _ ⟨rfl,y15,Y15,p15_0,i15_0_0,hj⟩
 have p15_0:h15 (3*n12+2)=some (.row [.bool bS,.slice aS lS kS] 47):=p15_0
 have i15_0_0:IW h15 n15 bS aS lS kS (((lcmD (qs.take j) 1:Nat):Int)):=i15_0_0
 have hj:j≤qs.length:=hj
 refine zG ?_
 by_cases q16:(j:Int)<(lq:Int)
 ·refine zG ?_
  obtain ⟨d17,g17⟩:∃d,(qs)[j]?=some d:=⟨_,List.getElem?_eq_getElem zo⟩
  obtain ⟨k17,o17,b17,a17,l17,c17,u17,v17,w17,x17,e17,m17,r17,t17,i17,j17⟩:=QS.at iq g17
  refine sI e17 r17 ?_
  refine sL t17 m17 0 ?_
  refine sA ?_
  intro h18 p18 x18
  refine sS [.bool b17,.slice a17 l17 c17,.bool u17,.slice v17 w17 x17] ?_
  intro h19 p19 o19
  refine zG ?_
  refine sC (yJ _ (j17.x zx)) ?_
  rintro _ h20 n20 ⟨b20,rfl,bq20⟩ y20 x20
  rcases bvs bq20 with ⟨rfl,q20⟩|⟨rfl,q20⟩
  ·refine zG ?_
   refine sC ((zf0 _ (j17.x zx) (i15_0_0.t zt) (ga hD hb (hd _ (List.mem_of_getElem? g17))) (bc hD hb hd)).cx) ?_
   rintro _ h21 n21 ⟨b21,rfl,bq21⟩ y21 x21
   rcases bvs bq21 with ⟨rfl,q21⟩|⟨rfl,q21⟩
   ·refine zG ?_
    refine sC (lcmX _ (g.x zx) (i15_0_0.t zt) (j17.x zx) (bc hD hb hd) (ga hD hb (hd _ (List.mem_of_getElem? g17)))) ?_
    rintro _ h22 n22 ⟨b22,a22,l22,c22,rfl,i22⟩ y22 x22
    refine sS [.bool b22,.slice a22 l22 c22] ?_
    intro h23 p23 o23
    refine zG ?_
    exact sK (j+1,b22,a22,l22,c22) ⟨rfl,zo,zy,p23,((i22.t zt).as (cW g17 q20)),(by show j+1≤qs.length;omega)⟩
   refine zG ?_
   exact sK (j+1,bS,aS,lS,kS) ⟨rfl,zo,zy,zp,((i15_0_0.t zt).as (cU g17 q20 q21)),(by show j+1≤qs.length;omega)⟩
  refine zG ?_
  exact sK (j+1,bS,aS,lS,kS) ⟨rfl,zo,zy,zp,((i15_0_0.t zt).as (cO g17 q20)),(by show j+1≤qs.length;omega)⟩
 refine zG ?_
 refine sS [.bool bS,.slice aS lS kS] ?_
 intro h24 p24 o24
 refine zq ?_
 exact ⟨_,_,_,_,rfl,(i15_0_0.t zt).as (by rw [show j=qs.length by omega,List.take_length])⟩
end
section
variable {h:HF}{cx cy fx gx lx ly n:Nat}{dx sx sy:Bool}{ax ay ex:Option Addr}
theorem qD {x y:Int}(hy:0<y):(Rat.divInt x y).num=x.tdiv ((Nat.gcd x.natAbs y.natAbs:Nat):Int)∧((Rat.divInt x y).den:Int)=y.tdiv ((Nat.gcd x.natAbs y.natAbs:Nat):Int):=by
 obtain ⟨d,rfl⟩:∃d:Nat,y=(d:Int):=⟨y.toNat,zo⟩
 exact rq x zo
theorem zfz {x y:Int}:Rat.divInt x y=Rat.divInt (-x) (-y):=by rw [Rat.neg_divInt_neg]
theorem mG {x y:Int}(hy:y<0):(Rat.divInt x y).num=(-x).tdiv ((Nat.gcd (-x).natAbs (-y).natAbs:Nat):Int)∧((Rat.divInt x y).den:Int)=(-y).tdiv ((Nat.gcd (-x).natAbs (-y).natAbs:Nat):Int):=by
 rw [zfz];exact qD zo
theorem uL {x y:Int}(hy:0<y)(hg:((Nat.gcd x.natAbs y.natAbs:Nat):Int)=1):(Rat.divInt x y).num=x∧((Rat.divInt x y).den:Int)=y:=by
 have h:=qD (x:=x) hy
 rw [hg,Int.tdiv_one,Int.tdiv_one] at h
 exact h
theorem rk {x y:Int}(hy:y<0)(hg:((Nat.gcd (-x).natAbs (-y).natAbs:Nat):Int)=1):(Rat.divInt x y).num= -x∧((Rat.divInt x y).den:Int)= -y:=by
 rw [zfz];exact uL zo hg
theorem bD {x y:Int}(hy:y=1):(Rat.divInt x y).num=x∧denZ (Rat.divInt x y)=0:=by
 have h:=uL (x:=x) (y:=y) zo (by rw [hy];simp)
 exact ⟨h.1,yf.2 (by have:=h.2;omega)⟩
theorem zb8 {x y:Int}(hy: -y=1):(Rat.divInt x y).num= -x∧denZ (Rat.divInt x y)=0:=by
 rw [zfz];exact bD hy
theorem mF (k:Nat){x:Int}{y:Int}(g:GG h n)(ix:IW h n sx ax lx cx x)(iy:IW h n sy ay ly cy y)(hx:x.natAbs<BW)(hy:y.natAbs<BW)(hy0:y≠0):CX (cal (k+10)) 70 [.agg #[.bool sx,.slice ax lx cx],.agg #[.bool sy,.slice ay ly cy]] h n (QV (Rat.divInt x y)):=by
 have hxn:(-x).natAbs<BW:=by rw [Int.natAbs_neg];exact hx
 have hyn:(-y).natAbs<BW:=by rw [Int.natAbs_neg];exact hy
 have hgn:((Nat.gcd (-x).natAbs (-y).natAbs:Nat):Int).natAbs<BW:=kM hyn zo
 have hgp:((Nat.gcd x.natAbs y.natAbs:Nat):Int).natAbs<BW:=kM hy hy0
 have hgn0:((Nat.gcd (-x).natAbs (-y).natAbs:Nat):Int)≠0:=kK zo
 have hgp0:((Nat.gcd x.natAbs y.natAbs:Nat):Int)≠0:=kK hy0
 refine zv (fn:=Tryz.f70) R4 ?_
 refine zG ?_
 refine sB [.bool sx,.slice ax lx cx] ?_
 intro h11 p11 x11
 refine sB [.bool sy,.slice ay ly cy] ?_
 intro h12 p12 x12
 refine sA ?_
 intro h13 p13 x13
 refine zG ?_
 refine sC (yJ _ (iy.t zt)) ?_
 rintro _ h14 n14 ⟨b14,rfl,bq14⟩ y14 x14
 rcases bvs bq14 with ⟨rfl,q14⟩|⟨rfl,q14⟩
 ·refine zG ?_
  refine sC (yJ _ (ix.t zt)) ?_
  rintro _ h15 n15 ⟨b15,rfl,bq15⟩ y15 x15
  rcases bvs bq15 with ⟨rfl,q15⟩|⟨rfl,q15⟩
  ·refine zG ?_
   refine sC (za8 _ (iy.t zt)) ?_
   rintro _ h16 n16 ⟨s16,rfl,q16⟩ y16 x16
   rcases q16 with ⟨rfl,q16⟩|⟨rfl,q16⟩|⟨rfl,q16⟩
   ·refine zG ?_
    refine zu [0,1,0,7,15,31] rfl ?_
    refine zH ?_
    refine dC (negX _ (ix.t zt)) ?_
    rintro _ h17 n17 ⟨b17,a17,l17,c17,rfl,i17⟩ y17 x17
    refine zH ?_
    refine dC (negX _ (iy.t zt)) ?_
    rintro _ h18 n18 ⟨b18,a18,l18,c18,rfl,i18⟩ y18 x18
    refine dS [.bool b17,.slice a17 l17 c17] ?_
    intro h19 p19 o19
    refine dS [.bool b18,.slice a18 l18 c18] ?_
    intro h20 p20 o20
    refine zG ?_
    refine sC (uK _ (i18.t zt)) ?_
    rintro _ h21 n21 ⟨b21,rfl,bq21⟩ y21 x21
    rcases bvs bq21 with ⟨rfl,q21⟩|⟨rfl,q21⟩
    ·refine zG ?_
     refine sC (gcdX _ (g.t zt) (i17.t zt) (i18.t zt) szB szB) ?_
     rintro _ h22 n22 ⟨b22,a22,l22,c22,rfl,i22⟩ y22 x22
     refine sA ?_
     intro h23 p23 x23
     refine sS [.bool b22,.slice a22 l22 c22] ?_
     intro h24 p24 o24
     refine zG ?_
     refine sC (uK _ (i22.t zt)) ?_
     rintro _ h25 n25 ⟨b25,rfl,bq25⟩ y25 x25
     rcases bvs bq25 with ⟨rfl,q25⟩|⟨rfl,q25⟩
     ·refine zG ?_
      refine zu [0,0,3,0,0,31,63,127] rfl ?_
      refine zH ?_
      refine dC (quoX _ (i17.t zt) (i22.t zt) szB szB szN) ?_
      rintro _ h26 n26 ⟨b26,a26,l26,c26,rfl,i26⟩ y26 x26
      refine zH ?_
      refine dC (quoX _ (i18.t zt) (i22.t zt) szB szB szN) ?_
      rintro _ h27 n27 ⟨b27,a27,l27,c27,rfl,i27⟩ y27 x27
      refine dS [.bool b26,.slice a26 l26 c26] ?_
      intro h28 p28 o28
      refine dS [.bool b27,.slice a27 l27 c27] ?_
      intro h29 p29 o29
      refine zG ?_
      refine sC (wR _ (i26.t zt) (i27.t zt) (q:=Rat.divInt x y) (by first|exact (qD zo).1|exact (mG zo).1|exact (uL zo ‹_›).1|exact (rk zo ‹_›).1) (by first|exact (qD zo).2|exact (mG zo).2|exact (uL zo ‹_›).2|exact (rk zo ‹_›).2)) ?_
      rintro _ h30 n30 ⟨b30,a30,l30,c30,d30,e30,f30,g30,rfl,i30,j30⟩ y30 x30
      refine sS [.bool b30,.slice a30 l30 c30,.bool d30,.slice e30 f30 g30] ?_
      intro h31 p31 o31
      refine zq ?_
      exact ⟨_,_,_,_,_,_,_,_,rfl,(i30.t zt),(j30.t zt)⟩
     refine zG ?_
     refine sC (wR _ (i17.t zt) (i18.t zt) (q:=Rat.divInt x y) (by first|exact (qD zo).1|exact (mG zo).1|exact (uL zo ‹_›).1|exact (rk zo ‹_›).1) (by first|exact (qD zo).2|exact (mG zo).2|exact (uL zo ‹_›).2|exact (rk zo ‹_›).2)) ?_
     rintro _ h32 n32 ⟨b32,a32,l32,c32,d32,e32,f32,g32,rfl,i32,j32⟩ y32 x32
     refine sS [.bool b32,.slice a32 l32 c32,.bool d32,.slice e32 f32 g32] ?_
     intro h33 p33 o33
     refine zq ?_
     exact ⟨_,_,_,_,_,_,_,_,rfl,(i32.t zt),(j32.t zt)⟩
    refine zG ?_
    refine sT #[.bool b17,.slice a17 l17 c17,.bool false,.slice none 0 0] ?_
    refine sS [.bool b17,.slice a17 l17 c17,.bool false,.slice none 0 0] ?_
    intro h34 p34 o34
    refine zq ?_
    exact ⟨_,_,_,_,_,_,_,_,rfl,(i17.t zt).as ((by first|exact (bD ‹_›).1.symm|exact (zb8 ‹_›).1.symm)),(IW.zero _ _).as ((by first|exact (bD ‹_›).2.symm|exact (zb8 ‹_›).2.symm))⟩
   ·exact absurd q16 hy0
   refine zG ?_
   refine sC (uK _ (iy.t zt)) ?_
   rintro _ h35 n35 ⟨b35,rfl,bq35⟩ y35 x35
   rcases bvs bq35 with ⟨rfl,q35⟩|⟨rfl,q35⟩
   ·refine zG ?_
    refine sC (gcdX _ (g.t zt) (ix.t zt) (iy.t zt) szB szB) ?_
    rintro _ h36 n36 ⟨b36,a36,l36,c36,rfl,i36⟩ y36 x36
    refine sA ?_
    intro h37 p37 x37
    refine sS [.bool b36,.slice a36 l36 c36] ?_
    intro h38 p38 o38
    refine zG ?_
    refine sC (uK _ (i36.t zt)) ?_
    rintro _ h39 n39 ⟨b39,rfl,bq39⟩ y39 x39
    rcases bvs bq39 with ⟨rfl,q39⟩|⟨rfl,q39⟩
    ·refine zG ?_
     refine zu [0,0,3,0,0,31,63,127] rfl ?_
     refine zH ?_
     refine dC (quoX _ (ix.t zt) (i36.t zt) szB szB szN) ?_
     rintro _ h40 n40 ⟨b40,a40,l40,c40,rfl,i40⟩ y40 x40
     refine zH ?_
     refine dC (quoX _ (iy.t zt) (i36.t zt) szB szB szN) ?_
     rintro _ h41 n41 ⟨b41,a41,l41,c41,rfl,i41⟩ y41 x41
     refine dS [.bool b40,.slice a40 l40 c40] ?_
     intro h42 p42 o42
     refine dS [.bool b41,.slice a41 l41 c41] ?_
     intro h43 p43 o43
     refine zG ?_
     refine sC (wR _ (i40.t zt) (i41.t zt) (q:=Rat.divInt x y) (by first|exact (qD zo).1|exact (mG zo).1|exact (uL zo ‹_›).1|exact (rk zo ‹_›).1) (by first|exact (qD zo).2|exact (mG zo).2|exact (uL zo ‹_›).2|exact (rk zo ‹_›).2)) ?_
     rintro _ h44 n44 ⟨b44,a44,l44,c44,d44,e44,f44,g44,rfl,i44,j44⟩ y44 x44
     refine sS [.bool b44,.slice a44 l44 c44,.bool d44,.slice e44 f44 g44] ?_
     intro h45 p45 o45
     refine zq ?_
     exact ⟨_,_,_,_,_,_,_,_,rfl,(i44.t zt),(j44.t zt)⟩
    refine zG ?_
    refine sC (wR _ (ix.t zt) (iy.t zt) (q:=Rat.divInt x y) (by first|exact (qD zo).1|exact (mG zo).1|exact (uL zo ‹_›).1|exact (rk zo ‹_›).1) (by first|exact (qD zo).2|exact (mG zo).2|exact (uL zo ‹_›).2|exact (rk zo ‹_›).2)) ?_
    rintro _ h46 n46 ⟨b46,a46,l46,c46,d46,e46,f46,g46,rfl,i46,j46⟩ y46 x46
    refine sS [.bool b46,.slice a46 l46 c46,.bool d46,.slice e46 f46 g46] ?_
    intro h47 p47 o47
    refine zq ?_
    exact ⟨_,_,_,_,_,_,_,_,rfl,(i46.t zt),(j46.t zt)⟩
   refine zG ?_
   refine sT #[.bool sx,.slice ax lx cx,.bool false,.slice none 0 0] ?_
   refine sS [.bool sx,.slice ax lx cx,.bool false,.slice none 0 0] ?_
   intro h48 p48 o48
   refine zq ?_
   exact ⟨_,_,_,_,_,_,_,_,rfl,(ix.t zt).as ((by first|exact (bD ‹_›).1.symm|exact (zb8 ‹_›).1.symm)),(IW.zero _ _).as ((by first|exact (bD ‹_›).2.symm|exact (zb8 ‹_›).2.symm))⟩
  refine zG ?_
  refine sT #[.bool false,.slice none 0 0,.bool false,.slice none 0 0] ?_
  refine sS [.bool false,.slice none 0 0,.bool false,.slice none 0 0] ?_
  intro h49 p49 o49
  refine zq ?_
  exact ⟨_,_,_,_,_,_,_,_,rfl,(IW.zero _ _).as (by rw [q15,Rat.zero_divInt];rfl),(IW.zero _ _).as (by rw [q15,Rat.zero_divInt];rfl)⟩
 exact absurd q14 hy0
theorem ze5 (k:Nat){x:Rat}{y:Int}(ix:IW h n sx ax lx cx x.num)(jx:IW h n dx ex fx gx (denZ x))(iy:IW h n sy ay ly cy y)(hx:x.num.natAbs<BW)(hx2:(denZ x).natAbs<BW)(hy:y.natAbs<BW):CX (cal (k+9)) 69 [.agg #[.bool sx,.slice ax lx cx,.bool dx,.slice ex fx gx],.agg #[.bool sy,.slice ay ly cy]] h n (IV (x.num*y.tdiv (x.den:Int))):=by
 refine zv (fn:=Tryz.f69) R4 ?_
 refine zG ?_
 refine sB [.bool sx,.slice ax lx cx,.bool dx,.slice ex fx gx] ?_
 intro h11 p11 x11
 refine sB [.bool sy,.slice ay ly cy] ?_
 intro h12 p12 x12
 refine sA ?_
 intro h13 p13 x13
 refine zG ?_
 refine sC (yJ _ (jx.t zt)) ?_
 rintro _ h14 n14 ⟨b14,rfl,bq14⟩ y14 x14
 rcases bvs bq14 with ⟨rfl,q14⟩|⟨rfl,q14⟩
 ·refine zG ?_
  refine zu [0,1,0,0,8,28,63,127] rfl ?_
  refine zH ?_
  refine dC (quoX _ (iy.t zt) (jx.t zt) szB szB szN) ?_
  rintro _ h15 n15 ⟨b15,a15,l15,c15,rfl,i15⟩ y15 x15
  refine dC (mulX _ (ix.t zt) i15 szB szB) ?_
  rintro _ h16 n16 ⟨b16,a16,l16,c16,rfl,i16⟩ y16 x16
  refine dS [.bool b16,.slice a16 l16 c16] ?_
  intro h17 p17 o17
  refine zq ?_
  exact ⟨_,_,_,_,rfl,(i16.t zt).as (by rw [xO q14])⟩
 refine zG ?_
 refine sC (mulX _ (ix.t zt) (iy.t zt) szB szB) ?_
 rintro _ h18 n18 ⟨b18,a18,l18,c18,rfl,i18⟩ y18 x18
 refine sS [.bool b18,.slice a18 l18 c18] ?_
 intro h19 p19 o19
 refine zq ?_
 exact ⟨_,_,_,_,rfl,(i18.t zt).as (by rw [show (x.den:Int)=1 from by have:=yf.1 q14;omega,Int.tdiv_one])⟩
end
section
variable {b cx cy fx fy gx gy lx ly m n:Nat}{h:HF}{dx dy sx sy:Bool}{ax ay ex ey:Option Addr}
theorem zfv {x:Rat}(h:x.num<0):(x⁻¹).num= -((x.den:Int))∧((x⁻¹).den:Int)= -x.num:=by
 rw [Rat.num_inv,Rat.den_inv,Int.sign_eq_neg_one_of_neg h,if_neg zo]
 omega
theorem zfu {x:Rat}(h:0<x.num):(x⁻¹).num=(x.den:Int)∧((x⁻¹).den:Int)=x.num:=by
 rw [Rat.num_inv,Rat.den_inv,Int.sign_eq_one_of_pos h,if_neg zo]
 omega
theorem zhw {x:Rat}(h:x.num=0):x⁻¹ =0:=by rw [Rat.num_eq_zero.1 h,Rat.inv_zero]
theorem Sz.inv {x:Rat}(h:Sz m x):Sz m x⁻¹ :=by
 have hd:=x.den_pos
 refine ⟨?_,?_⟩
 ·rcases Int.lt_trichotomy x.num 0 with h0|h0|h0
  ·rw [(zfv h0).1,Int.natAbs_neg,Int.natAbs_natCast];exact h.2
  ·rw [zhw h0];exact Nat.lt_of_le_of_lt (Nat.zero_le _) h.2
  rw [(zfu h0).1,Int.natAbs_natCast];exact h.2
 rw [Rat.den_inv]
 split
 ·exact Nat.lt_of_le_of_lt hd h.2
 exact h.1
theorem Sz.div {a:Nat}{x y:Rat}(hx:Sz a x)(hy:Sz b y):Sz (a+b) (x/y):=by
 rw [Rat.div_def];exact hx.mul hy.inv
theorem invQ (k:Nat){x:Rat}(ix:IW h n sx ax lx cx x.num)(jx:IW h n dx ex fx gx (denZ x)):CX (cal (k+4)) 71 [.agg #[.bool sx,.slice ax lx cx,.bool dx,.slice ex fx gx]] h n (QV x⁻¹):=by
 refine zv (fn:=Tryz.f71) R4 ?_
 refine zG ?_
 refine sB [.bool sx,.slice ax lx cx,.bool dx,.slice ex fx gx] ?_
 intro h11 p11 x11
 refine sA ?_
 intro h12 p12 x12
 refine zG ?_
 refine sC (za8 _ (ix.t zt)) ?_
 rintro _ h13 n13 ⟨s13,rfl,q13⟩ y13 x13
 rcases q13 with ⟨rfl,q13⟩|⟨rfl,q13⟩|⟨rfl,q13⟩
 ·refine zG ?_
  refine zu [0,1,3,0,8,31,63,127] rfl ?_
  refine zH ?_
  refine dC (denQ _ (ix.t zt) (jx.t zt)) ?_
  rintro _ h14 n14 ⟨b14,a14,l14,c14,rfl,i14⟩ y14 x14
  refine dC (negX _ i14) ?_
  rintro _ h15 n15 ⟨b15,a15,l15,c15,rfl,i15⟩ y15 x15
  refine zH ?_
  refine dC (negX _ (ix.t zt)) ?_
  rintro _ h16 n16 ⟨b16,a16,l16,c16,rfl,i16⟩ y16 x16
  refine dC (wR _ (i15.t zt) i16 (q:=x⁻¹) (zfv q13).1 (zfv q13).2) ?_
  rintro _ h17 n17 ⟨b17,a17,l17,c17,d17,e17,f17,g17,rfl,i17,j17⟩ y17 x17
  refine dS [.bool b17,.slice a17 l17 c17,.bool d17,.slice e17 f17 g17] ?_
  intro h18 p18 o18
  refine zq ?_
  exact ⟨_,_,_,_,_,_,_,_,rfl,(i17.t zt),(j17.t zt)⟩
 ·refine zG ?_
  refine sT #[.bool false,.slice none 0 0,.bool false,.slice none 0 0] ?_
  refine sS [.bool false,.slice none 0 0,.bool false,.slice none 0 0] ?_
  intro h19 p19 o19
  refine zq ?_
  exact (show x⁻¹ =0 from zhw q13)▸QV.zero _ _
 refine zG ?_
 refine zu [0,1,0,4,15,31] rfl ?_
 refine zH ?_
 refine dC (denQ _ (ix.t zt) (jx.t zt)) ?_
 rintro _ h20 n20 ⟨b20,a20,l20,c20,rfl,i20⟩ y20 x20
 refine zH ?_
 refine dC (wR _ i20 (ix.t zt) (q:=x⁻¹) (zfu q13).1 (zfu q13).2) ?_
 rintro _ h21 n21 ⟨b21,a21,l21,c21,d21,e21,f21,g21,rfl,i21,j21⟩ y21 x21
 refine dS [.bool b21,.slice a21 l21 c21,.bool d21,.slice e21 f21 g21] ?_
 intro h22 p22 o22
 refine zq ?_
 exact ⟨_,_,_,_,_,_,_,_,rfl,(i21.t zt),(j21.t zt)⟩
theorem divQ (k:Nat){x:Rat}{y:Rat}(g:GG h n)(ix:IW h n sx ax lx cx x.num)(jx:IW h n dx ex fx gx (denZ x))(iy:IW h n sy ay ly cy y.num)(jy:IW h n dy ey fy gy (denZ y)){a:Nat}(hx:Sz a x)(hy:Sz b y)(hab:a+b≤2496):CX (cal (k+11)) 30 [.agg #[.bool sx,.slice ax lx cx,.bool dx,.slice ex fx gx],.agg #[.bool sy,.slice ay ly cy,.bool dy,.slice ey fy gy]] h n (QV (x/y)):=by
 refine zv (fn:=Tryz.f30) R4 ?_
 refine zG ?_
 refine sB [.bool sx,.slice ax lx cx,.bool dx,.slice ex fx gx] ?_
 intro h11 p11 x11
 refine sB [.bool sy,.slice ay ly cy,.bool dy,.slice ey fy gy] ?_
 intro h12 p12 x12
 refine sA ?_
 intro h13 p13 x13
 refine zG ?_
 refine zu [0,0,2,7,15] rfl ?_
 refine zH ?_
 refine dC (invQ _ (iy.t zt) (jy.t zt)) ?_
 rintro _ h14 n14 ⟨b14,a14,l14,c14,d14,e14,f14,g14,rfl,i14,j14⟩ y14 x14
 refine dC (mulQ _ (g.t zt) (ix.t zt) (jx.t zt) i14 j14 hx hy.inv hab) ?_
 rintro _ h15 n15 ⟨b15,a15,l15,c15,d15,e15,f15,g15,rfl,i15,j15⟩ y15 x15
 refine dS [.bool b15,.slice a15 l15 c15,.bool d15,.slice e15 f15 g15] ?_
 intro h16 p16 o16
 refine zq ?_
 exact ⟨_,_,_,_,_,_,_,_,rfl,(i15.t zt).as (by rw [Rat.div_def]),(j15.t zt).as (by rw [Rat.div_def])⟩
end
theorem wY {x y:Int}(hy:0<y)(hx:x.natAbs<2^m)(hy2:y.natAbs<2^m):Sz m (Rat.divInt x y):=by
 obtain ⟨h1,h2⟩:=qD (x:=x) hy
 refine ⟨?_,?_⟩
 ·rw [h1];exact wy hx
 have h3:=wy (y:=((Nat.gcd x.natAbs y.natAbs:Nat):Int)) hy2
 rw [←h2,Int.natAbs_natCast] at h3
 exact h3
theorem tG {x:Nat}{a:Nat}(h:x<2^a)(hab:a≤b):x<2^b:=Nat.lt_of_lt_of_le h (Nat.pow_le_pow_right zd hab)
theorem qu {x y:Nat}{a c:Nat}(hx:x<2^a)(hy:y<2^b)(hc:a+b≤c):x*y<2^c:=by
 refine tG (a:=a+b) ?_ hc
 rw [Nat.pow_add]
 exact Nat.mul_lt_mul'' hx hy
theorem jk {P:Nat}(hB:B<2^P):bndT B 1<2^(2*P+1):=by
 show 2*(B*B)<_
 have h:=qu hB hB (c:=2*P) zo
 rw [Nat.pow_succ]
 omega
theorem zgh {P:Nat}(hB:B<2^P):bndT B 2<2^(3*P+3):=by
 show 6*(B*(B*B))<_
 have h:=qu hB (qu hB hB (Nat.le_refl _)) (c:=3*P) zo
 rw [Nat.pow_succ,Nat.pow_succ,Nat.pow_succ]
 omega
structure LdZ (n P k:Nat)(T:Nat→Nat→Int)(bf:Int):Prop where
 t:∀i j,i<n→j<n→(T i j).natAbs<2^(3*P+3)
 b:bf.natAbs<2^(2*P+1)
 t1:k≤1→∀i j,i<n→j<n→(T i j).natAbs<2^(2*P+1)
 b1:k≤1→bf.natAbs<2^P
theorem LdS.z {n k P:Nat}{T0 T:Nat→Nat→Int}{bf:Int}(hn:n≤3)(h1:1≤B)(hM:∀i j,i<n→j<n→(T0 i j).natAbs≤B)(hB:B<2^P)(h:LdS n T0 k T bf)(hk:k<n):LdZ n P k T bf:=by
 obtain ⟨h2,h3,h4⟩:=h.bound hn h1 hM hk
 have hk3:k=0∨k=1∨k=2:=zo
 have m:=qR h1
 refine ⟨fun i j hi hj=>?_,Nat.lt_of_le_of_lt h3 (jk hB),fun hk1 i j hi hj=>?_,fun hk1=>Nat.lt_of_le_of_lt (h4 hk1) hB⟩
 ·refine Nat.lt_of_le_of_lt (h2 i j hi hj) ?_
  rcases hk3 with rfl|rfl|rfl
  ·exact tG hB zo
  ·exact tG (jk hB) zo
  exact zgh hB
 refine Nat.lt_of_le_of_lt (h2 i j hi hj) ?_
 rcases hk3 with rfl|rfl|rfl
 ·exact tG hB zo
 ·exact jk hB
 omega
structure LdP (n P:Nat)(D:Nat)(a0:Nat→Nat→Rat)(k:Nat)(T:Nat→Nat→Int)(bf:Int)(a:Nat→Nat→Rat):Prop where
 i:LdI n (tT n a0) (tS n a0) a0 k T bf a
 v:∃V0 V bv,(∀i j,i<n→j<n→(V0 i j).natAbs<2^P)∧LdI n V0 (fun _=>((D:Int):Rat)) a0 k V bv a
section
variable {n P D k:Nat}{a0 a:Nat→Nat→Rat}{T:Nat→Nat→Int}{bf:Int}
theorem LdP.val (hn:n≤3)(hP:1≤P)(hD:0<D)(hD2:D<2^P)(h:LdP n P D a0 k T bf a)(hk:k<n):∃V bv,LdZ n P k V bv∧0<bv∧∀i j,k≤i→i<n→k≤j→j<n→a i j=Rat.divInt (V i j) (bv*D):=by
 obtain ⟨V0,V,bv,hV,hI⟩:=h.v
 have h2:2^P-1<2^P:=by have:=Nat.two_pow_pos P;omega
 have h3:1≤2^P-1:=by
  have:2^1≤2^P:=Nat.pow_le_pow_right zd hP
  omega
 refine ⟨V,bv,hI.ls.z hn h3 (fun i j hi hj=>by have:=hV i j hi hj;omega) h2 hk,hI.pos,fun i j h1 h2 h3 h4=>?_⟩
 rw [hI.value (D:=(D:Int)) zo (fun _=>rfl) h1 h2 h3 h4,Rat.divInt_eq_div]
theorem LdP.sz (hn:n≤3)(hP:1≤P)(hD:0<D)(hD2:D<2^P)(h:LdP n P D a0 k T bf a)(hk:k<n)(h1:k≤i)(h2:i<n)(h3:k≤j)(h4:j<n):Sz (3*P+3) (a i j)∧(k≤1→Sz (2*P+1) (a i j)):=by
 obtain ⟨V,bv,hZ,hb,e⟩:=h.val hn hP hD hD2 hk
 rw [e i j h1 h2 h3 h4]
 have hp:0<bv*(D:Int):=Int.mul_pos hb zo
 refine ⟨wY hp (hZ.t i j h2 h4) ?_,fun hk1=>wY hp (hZ.t1 hk1 i j h2 h4) ?_⟩
 ·rw [Int.natAbs_mul,Int.natAbs_natCast]
  exact qu hZ.b hD2 zo
 rw [Int.natAbs_mul,Int.natAbs_natCast]
 exact qu (hZ.b1 hk1) hD2 zo
theorem LdP.quo (hn:n≤3)(hP:1≤P)(hD:0<D)(hD2:D<2^P)(h:LdP n P D a0 k T bf a)(hk:k<n)(hp:0<a k k)(h1:k<i)(h2:i<n):Sz (2*P+1) (a i k/a k k):=by
 obtain ⟨V,bv,hZ,hb,e⟩:=h.val hn hP hD hD2 hk
 have hk1:k≤1:=zo
 have hd:0<bv*(D:Int):=Int.mul_pos hb zo
 have hd':((bv*(D:Int):Int):Rat)≠0:=fun e=>by have:=wP.1 e;omega
 have e1:=e i k zo h2 (Nat.le_refl _) hk
 have e2:=e k k (Nat.le_refl _) hk (Nat.le_refl _) hk
 have hv:0<V k k:=by
  rw [e2,Rat.divInt_eq_div,Rat.div_def] at hp
  have hi:(0:Rat)<((bv*(D:Int):Int):Rat):=Rat.intCast_pos.2 hd
  have h5:=Rat.mul_pos hp hi
  rw [Rat.mul_assoc,Rat.inv_mul_cancel _ hd',Rat.mul_one] at h5
  exact Rat.intCast_pos.1 h5
 have e3:a i k/a k k=Rat.divInt (V i k) (V k k):=by
  rw [e1,e2,Rat.divInt_eq_div,Rat.divInt_eq_div,Rat.divInt_eq_div,Rat.div_def,Rat.div_def,Rat.div_def,Rat.div_def,Rat.inv_mul_rev,Rat.inv_inv]
  rw [Rat.mul_assoc,←Rat.mul_assoc _ _ ((V k k:Rat)⁻¹),Rat.inv_mul_cancel _ hd',Rat.one_mul]
 rw [e3]
 exact wY hv (hZ.t1 hk1 i k h2 hk) (hZ.t1 hk1 k k hk hk)
theorem ou (hD:0<D):∀_:Nat,(0:Rat)<((D:Int):Rat):=fun _=>Rat.intCast_pos.2 zo
theorem LdP.start (hD:0<D)(hB:B<2^P)(hf:∀i j,i<n→j<n→FN D B (a0 i j)):LdP n P D a0 0 (tT n a0) 1 a0:=by
 have hc:∀i j,∃z:Int,i<n→j<n→a0 i j*(D:Rat)=(z:Rat)∧z.natAbs≤B:=fun i j=>by
  by_cases h:i<n∧j<n
  ·obtain ⟨z,hz⟩:=hf i j h.1 h.2
   exact ⟨z,fun _ _=>hz⟩
  exact ⟨0,fun h1 h2=>absurd ⟨h1,h2⟩ h⟩
 refine ⟨LdI.start du,fun i j=>(hc i j).choose,_,_,fun i j hi hj=>Nat.lt_of_le_of_lt ((hc i j).choose_spec hi hj).2 hB,LdI.start fun i j _ hi _ hj=>?_⟩
 rw [←((hc i j).choose_spec hi hj).1,Rat.mul_comm]
 show _=(1:Rat)*_*_
 rw [Rat.one_mul,Rat.intCast_natCast]
theorem LdP.step (hn:n≤3)(hD:0<D)(h:LdP n P D a0 k T bf a)(hk:k<n)(hp:0<a k k):LdP n P D a0 (k+1) (yS T k bf) (T k k) (nJ a k):=by
 obtain ⟨hi,V0,V,bv,hV,hI⟩:=h
 exact ⟨hi.step hn (fun _=>nq) hk hp,V0,_,_,hV,hI.step hn (ou hD) hk hp⟩
theorem LdP.skip (hD:0<D)(h:LdP n P D a0 k T bf a)(hk:k<n)(hz:a k k=0)(ht:∀i,k<i→i<n→T i k=0):LdP n P D a0 (k+1) T bf a:=by
 obtain ⟨hi,V0,V,bv,hV,hI⟩:=h
 refine ⟨hi.skip (fun _=>nq) hk hz ht,V0,V,bv,hV,hI.skip (ou hD) hk hz fun i h1 h2=>?_⟩
 exact (rL hI.tab hI.pos (ou hD) zo h2 (Nat.le_refl _) hk).2 ((rL hi.tab hi.pos (fun _=>nq) zo h2 (Nat.le_refl _) hk).1 (ht i h1 h2))
theorem LdP.at (h:LdP n P D a0 k T bf a)(h1:k≤i)(h2:i<n)(h3:k≤j)(h4:j<n):Rat.divInt (T i j) bf/tS n a0 i=a i j:=by
 have e:=h.i.tab i j h1 h2 h3 h4
 have hb:(bf:Rat)≠0:=fun e=>by have:=wP.1 e;have:=h.i.pos;omega
 have hs:tS n a0 i≠0:=fun e=>by have:=nq (N:=n) (a:=a0) (i:=i);rw [e] at this;exact absurd this zd
 have e1:=Rat.mul_inv_cancel _ hb
 have e2:=Rat.mul_inv_cancel _ hs
 rw [Rat.divInt_eq_div,Rat.div_def,Rat.div_def,e]
 generalize (bf:Rat)=x at*
 generalize x⁻¹ =x' at*
 generalize tS n a0 i=y at*
 generalize y⁻¹ =y' at*
 generalize a i j=z at*
 have e3:x*y*z*x'*y'=(x*x')*(y*y')*z:=by grind
 rw [e3,e1,e2,Rat.one_mul,Rat.one_mul]
theorem LdP.tz (h:LdP n P D a0 k T bf a)(hn:n≤3)(h1:1≤B)(hB:B<2^P)(hM:∀i j,i<n→j<n→(tT n a0 i j).natAbs≤B)(hk:k<n):LdZ n P k T bf:=h.i.ls.z hn h1 hM hB hk
end
section
variable {N i j n:Nat}{q:Rat}{α:Type}{h:HF}{aq:Option Addr}
def aQ (qs:List Rat):Nat→Nat→Rat:=fun _ j=>(qs[j]?).getD 0
theorem zaq {qs:List Rat}(h:qs[j]?=some q):aQ qs i j=q:=by unfold aQ;rw [h];rfl
theorem ze7 (qs:List Rat):rowQ qs.length (aQ qs) 0=qs:=by
 refine List.ext_getElem? fun j=>?_
 unfold rowQ
 rw [List.getElem?_map]
 by_cases h:j<qs.length
 ·rw [List.getElem?_range h,List.getElem?_eq_getElem h]
  show some (aQ qs 0 j)=_
  rw [zaq (List.getElem?_eq_getElem h)]
 rw [List.getElem?_eq_none (by rw [List.length_range];omega),List.getElem?_eq_none zo]
 rfl
def mixF {α:Type}(f g:Nat→α)(j N:Nat):List α:=(List.range N).map fun i=>if i<j then f i else g i
theorem yI {f g:Nat→α}:(mixF f g j N).length=N:=by unfold mixF;rw [List.length_map,List.length_range]
theorem xn {f g:Nat→α}(h:i<N):(mixF f g j N)[i]?=some (if i<j then f i else g i):=by
 unfold mixF
 rw [List.getElem?_map,List.getElem?_range h]
 rfl
theorem rR {f g:Nat→α}(h:j<N):(mixF f g j N).set j (f j)=mixF f g (j+1) N:=by
 refine List.ext_getElem? fun i=>?_
 rw [List.getElem?_set,yI]
 by_cases h1:j=i
 ·subst h1
  rw [if_pos rfl,if_pos h,xn h,if_pos (Nat.lt_succ_self _)]
 rw [if_neg h1]
 by_cases h2:i<N
 ·rw [xn h2,xn h2]
  by_cases h3:i<j
  ·rw [if_pos h3,if_pos zo]
  rw [if_neg h3,if_neg zo]
 rw [List.getElem?_eq_none (by rw [yI];omega),List.getElem?_eq_none (by rw [yI];omega)]
theorem mn {f:Nat→α}{z:α}:List.replicate N z=mixF f (fun _=>z) 0 N:=by
 refine List.ext_getElem? fun i=>?_
 rw [List.getElem?_replicate]
 by_cases h:i<N
 ·rw [if_pos h,xn h,if_neg (Nat.not_lt_zero _)]
 rw [if_neg h,List.getElem?_eq_none (by rw [yI];omega)]
theorem ij {f g g':Nat→α}:mixF f g N N=mixF g' f 0 N:=by
 refine List.ext_getElem? fun i=>?_
 by_cases h:i<N
 ·rw [xn h,xn h,if_pos h,if_neg (Nat.not_lt_zero _)]
 rw [List.getElem?_eq_none (by rw [yI];omega),List.getElem?_eq_none (by rw [yI];omega)]
theorem kB {a:Nat}:∀{l:List Rat} {m:Nat},(∀q∈l,q.den<2^a)→0<m→lcmD l m≤m*2^(a*l.length)
 |[],m,_,_=>by
  show m≤m*2^(a*0)
  rw [Nat.mul_zero,Nat.pow_zero,Nat.mul_one]
  exact Nat.le_refl _
 |q::l,m,h,hm=>by
  have h1:Nat.lcm m q.den≤m*2^a:=Nat.le_trans (Nat.le_of_dvd (Nat.mul_pos hm q.den_pos) (Nat.lcm_dvd (Nat.dvd_mul_right _ _) (Nat.dvd_mul_left _ _))) (Nat.mul_le_mul_left _ (Nat.le_of_lt (h q List.mem_cons_self)))
  have h2:=kB (l:=l) (m:=Nat.lcm m q.den) (fun x hx=>h x (List.mem_cons_of_mem _ hx)) (Nat.lcm_pos hm q.den_pos)
  show lcmD l (Nat.lcm m q.den)≤_
  refine Nat.le_trans h2 (Nat.le_trans (Nat.mul_le_mul_right _ h1) ?_)
  rw [List.length_cons,Nat.mul_add,Nat.mul_one,Nat.add_comm,Nat.pow_add,Nat.mul_assoc]
  exact Nat.le_refl _
section
variable {qs:List Rat}{a P:Nat}
theorem oS:deni qs.length (aQ qs) 0=lcmD qs 1:=by unfold deni;rw [ze7]
theorem oR (hz:∀q∈qs,Sz a q)(hP:a*qs.length+a+1≤P):deni qs.length (aQ qs) 0<2^P:=by
 rw [oS]
 have h1:=kB (l:=qs) (m:=1) (fun q hq=>(hz q hq).2) zd
 rw [Nat.one_mul] at h1
 exact Nat.lt_of_le_of_lt h1 (Nat.pow_lt_pow_right zd zo)
theorem ie (hz:∀q∈qs,Sz a q)(hP:a*qs.length+a+1≤P)(hj:j<qs.length):(nfi qs.length (aQ qs) 0 j).natAbs<2^P:=by
 have h1:=kB (l:=qs) (m:=1) (fun q hq=>(hz q hq).2) zd
 rw [Nat.one_mul,←oS] at h1
 have hq:=hz _ (List.getElem_mem hj)
 unfold nfi nfZ
 rw [zaq (List.getElem?_eq_getElem hj),Int.natAbs_mul]
 have h2:((deni qs.length (aQ qs) 0:Nat):Int).tdiv ((qs[j]).den:Int)=((deni qs.length (aQ qs) 0/(qs[j]).den:Nat):Int):=rfl
 rw [h2,Int.natAbs_natCast]
 have h3:deni qs.length (aQ qs) 0/(qs[j]).den≤2^(a*qs.length):=Nat.le_trans (Nat.div_le_self _ _) h1
 refine Nat.lt_of_lt_of_le (Nat.lt_of_le_of_lt (Nat.mul_le_mul_left _ h3) (Nat.mul_lt_mul_of_pos_right hq.1 (Nat.two_pow_pos _))) ?_
 rw [←Nat.pow_add]
 exact Nat.pow_le_pow_right zd zo
theorem zd5 (hz:∀q∈qs,Sz a q)(hP:a*qs.length+a+1≤P)(hj:j≤qs.length):gcF (nfi qs.length (aQ qs) 0) j<2^P:=by
 have h:=zh2 (f:=nfi qs.length (aQ qs) 0) (m:=j) (B:=2^P-1) fun i hi=>by
  have:=ie hz hP (j:=i) zo
  omega
 have:=Nat.two_pow_pos P
 omega
end
structure ScR (qs:List Rat)(P:Nat)(zs:List Int)(s:Rat):Prop where
 len:zs.length=qs.length
 pos:0<s
 sz:Sz P s
 zb:∀z∈zs,z.natAbs<2^P
 eq:∀(j:Nat) (q:Rat) (z:Int),qs[j]?=some q→zs[j]?=some z→(z:Rat)=s*q
theorem ScR.mk0 {qs:List Rat}{a P:Nat}(hz:∀q∈qs,Sz a q)(hP:a*qs.length+a+1≤P)(h0:gcF (nfi qs.length (aQ qs) 0) qs.length=0):ScR qs P (mixF (tT qs.length (aQ qs) 0) (nfi qs.length (aQ qs) 0) 0 qs.length) 1:=by
 have hn:∀j,j<qs.length→nfi qs.length (aQ qs) 0 j=0:=fun j hj=>by
  have:=br (f:=nfi qs.length (aQ qs) 0) hj
  rw [h0,Nat.zero_dvd] at this
  omega
 refine ⟨yI,by decide,⟨by show 1<2^P;exact Nat.one_lt_two_pow zo,by show 1<2^P;exact Nat.one_lt_two_pow zo⟩,fun z hm=>?_,fun j q z h1 h2=>?_⟩
 ·obtain ⟨i,hi,rfl⟩:=List.mem_map.1 hm
  rw [if_neg (Nat.not_lt_zero _),hn i (List.mem_range.1 hi)]
  exact Nat.two_pow_pos _
 have hj:=(List.getElem?_eq_some_iff.1 h1).1
 rw [xn hj,if_neg (Nat.not_lt_zero _),hn j hj] at h2
 cases h2
 have e:=zdt (hH (N:=qs.length) (a:=aQ qs) (i:=0) hj)
 have e2:((nfi qs.length (aQ qs) 0 j:Int):Rat)=aQ qs 0 j*(deni qs.length (aQ qs) 0:Rat):=e
 rw [hn j hj,zaq h1] at e2
 rw [Rat.one_mul]
 rcases Rat.mul_eq_zero.1 e2.symm with h|h
 ·rw [h];rfl
 have hp:=iZ (N:=qs.length) (a:=aQ qs) (i:=0)
 have:=Rat.natCast_eq_zero_iff.1 h
 omega
theorem ScR.mk1 {qs:List Rat}{a P:Nat}(hz:∀q∈qs,Sz a q)(hP:a*qs.length+a+1≤P)(h0:¬gcF (nfi qs.length (aQ qs) 0) qs.length=0):ScR qs P (mixF (tT qs.length (aQ qs) 0) (nfi qs.length (aQ qs) 0) qs.length qs.length) (tS qs.length (aQ qs) 0):=by
 have hc:cci qs.length (aQ qs) 0=gcF (nfi qs.length (aQ qs) 0) qs.length:=by unfold cci ccF;rw [if_neg h0]
 have hcl:cci qs.length (aQ qs) 0<2^P:=by rw [hc];exact zd5 hz hP (Nat.le_refl _)
 refine ⟨yI,nq,wY (by rw [hc];omega) (by rw [Int.natAbs_natCast];exact oR hz hP) (by rw [Int.natAbs_natCast];exact hcl),fun z hm=>?_,fun j q z h1 h2=>?_⟩
 ·obtain ⟨i,hi,rfl⟩:=List.mem_map.1 hm
  have hi:=List.mem_range.1 hi
  rw [if_pos hi]
  exact wy (ie hz hP hi)
 have hj:=(List.getElem?_eq_some_iff.1 h1).1
 rw [xn hj,if_pos hj] at h2
 cases h2
 rw [zg3 hj,zaq h1]
theorem pA (k:Nat)(g:GG h n){lq cq:Nat}{qs:List Rat}(iq:QS h n (.slice aq lq cq) qs){a P:Nat}(hz:∀q∈qs,Sz a q)(hP:a*qs.length+a+1≤P)(hP2:P≤2496)(hL:qs.length≤1000):
  CX (cal (k+12)) 28 [.slice aq lq cq] h n fun w h' n'=>∃B zs s b a l c d e f u,w=.tuple #[.slice (some ⟨B,0,none⟩) lq lq,.agg #[.bool b,.slice a l c,.bool d,.slice e f u]]∧3*n≤B∧gro B=false∧OZ h' n' B zs∧Ty1 h' B 47∧ScR qs P zs s∧IW h' n' b a l c s.num∧IW h' n' d e f u (denZ s):=by
 have lq1:=iq.len
 subst lq1
 have hPB:∀{x:Nat},x<2^P→x<BW:=fun h=>wg h hP2
 refine zv (fn:=Tryz.f28) R4 ?_
 refine zG ?_
 refine sA ?_
 intro h1 p1 x1
 refine zG ?_
 refine sC (zgc _ (g.x zx) (iq.x zx) (D:=lcmD qs 1) (iH zd) (by rw [←oS];exact hPB (oR hz hP)) (fun q hq=>iI hq) zo) ?_
 rintro _ h2 n2 ⟨b2,a2,l2,c2,rfl,i2⟩ y2 x2
 rw [←oS] at i2
 refine sA ?_
 intro h3 p3 x3
 refine sS [.bool b2,.slice a2 l2 c2] ?_
 intro h4 p4 o4
 refine zG ?_
 refine sMk (L:=qs.length) [.bool false,.slice none 0 0] ?_ hL
 intro h5 p5 x5
 refine zG ?_
 refine sA ?_
 intro h6 p6 x6
 refine zG ?_
 obtain ⟨B4,hB4⟩:∃B,B=3*n2+2:=⟨_,rfl⟩
 obtain ⟨BR,hBR⟩:∃B,B=3*(n2+1)+2:=⟨_,rfl⟩
 obtain ⟨B6,hB6⟩:∃B,B=3*(n2+1+1)+2:=⟨_,rfl⟩
 have gB:gro BR=false:=by rw [hBR];exact zA _
 have o5:OZ h6 (n2+1+1+1) BR (List.replicate qs.length 0):=by
  rw [hBR]
  exact (OR.fill (n:=n2+1+1) zo p5 intP.kp ⟨_,_,_,_,rfl,IW.zero _ _⟩).xx intP.kp zx
 have t5:Ty1 h6 BR 47:=⟨_,by rw [hBR];exact zp⟩
 have p46:h6 B4=some (.row [.bool b2,.slice a2 l2 c2] 47):=by rw [hB4];exact zp
 have p36:h6 (3*n+2)=_:=(zp:h6 (3*n+2)=_)
 have i26:=i2.t (show Tr n2 h2 (n2+1+1+1) h6 from zt)
 have iq6:=iq.x (show Tx n h (n2+1+1+1) h6 from zx)
 have g6:=g.x (show Tx n h (n2+1+1+1) h6 from zx)
 have x06:Exo n h h6:=⟨(show Tx n h (n2+1+1+1) h6 from zx).2⟩
 rw [←hB4,←hBR,←hB6]
 rw [←hB6] at p6
 clear p5 p4 p3 p1 x1 x2 x3 o4 x5 x6
 refine sF (α:=Nat×Bool×Option Addr×Nat×Nat) (fun z=>[(3,.pointer (some ⟨3*n+2,0,none⟩)),(4,.pointer (some ⟨B4,0,none⟩)),(5,.slice (some ⟨BR,0,none⟩) qs.length qs.length),(6,.pointer (some ⟨B6,0,none⟩)),(16,.slice aq qs.length cq),(17,.int .i64 (qs.length:Int)),(18,.int .i64 (z.1:Int))]) (fun z h' n' w'=>w'=[]∧(n2+1+1+1)≤n'∧ExtB (n2+1+1+1) [BR,B6] h6 h'∧OZ h' n' BR (mixF (nfi qs.length (aQ qs) 0) (fun _=>0) z.1 qs.length)∧Ty1 h' BR 47∧h' B6=some (.row [.bool z.2.1,.slice z.2.2.1 z.2.2.2.1 z.2.2.2.2] 47)∧IW h' n' z.2.1 z.2.2.1 z.2.2.2.1 z.2.2.2.2 ((gcF (nfi qs.length (aQ qs) 0) z.1:Nat):Int)∧Tr (n2+1+1+1) h6 n' h'∧z.1≤qs.length) (fun z=>qs.length-z.1) (0,false,none,0,0) ⟨rfl,Nat.le_refl _,ExtB.refl _ _ _,o5.as mn,t5,p6,IW.zero _ _,Tr.refl _ _,Nat.zero_le _⟩ ?_
 rintro ⟨j,bC,aC,lC,cC⟩ t h7 n7 _ ⟨rfl,y7,Y7,o7,ty7,p7,i7,T7,hj⟩
 have y7:(n2+1+1+1)≤n7:=y7
 have o7:OZ h7 n7 BR (mixF (nfi qs.length (aQ qs) 0) (fun _=>0) j qs.length):=o7
 have ty7:Ty1 h7 BR _:=ty7
 have p7:h7 B6=some (.row [.bool bC,.slice aC lC cC] 47):=p7
 have i7:IW h7 n7 bC aC lC cC ((gcF (nfi qs.length (aQ qs) 0) j:Nat):Int):=i7
 have T7:Tr (n2+1+1+1) h6 n7 h7:=T7
 have hj:j≤qs.length:=hj
 have p47:h7 B4=_:=(Y7 B4 zo (by simp;omega)).trans p46
 have p37:h7 (3*n+2)=_:=(Y7 (3*n+2) zo (by simp;omega)).trans p36
 have X7:Exo n h h7:=⟨fun c hc=>(Y7 c zo (by simp;omega)).trans (x06.go c hc)⟩
 have i47:=i26.t T7
 have hg7:gcF (nfi qs.length (aQ qs) 0) j<BW:=hPB (zd5 hz hP hj)
 refine zG ?_
 by_cases q7:(j:Int)<(qs.length:Int)
 ·refine zG ?_
  have hjl:j<qs.length:=zo
  obtain ⟨q,gq⟩:∃q,qs[j]?=some q:=⟨_,List.getElem?_eq_getElem hjl⟩
  obtain ⟨k8,o8,b8,a8,l8,c8,d8,e8,f8,u8,eq8,m8,r8,t8,i8,j8⟩:=QS.at (iq.ext (n':=n7) X7.go zo) gq
  have sq:=hz q (List.mem_of_getElem? gq)
  refine sI eq8 r8 ?_
  refine sL t8 m8 0 ?_
  refine sA ?_
  intro h9 p9 x9
  refine zG ?_
  refine sS [.bool b8,.slice a8 l8 c8,.bool d8,.slice e8 f8 u8] ?_
  intro h10 p10 o10
  refine zG ?_
  refine sC (ze5 _ (i8.t zt) (j8.t zt) (i47.t zt) (wg sq.1 zo) (wg sq.z zo) (by rw [Int.natAbs_natCast];exact hPB (oR hz hP))) ?_
  rintro _ h11 n11 ⟨b11,a11,l11,c11,rfl,i11⟩ y11 x11
  have e11:q.num*((deni qs.length (aQ qs) 0:Nat):Int).tdiv (q.den:Int)=nfi qs.length (aQ qs) 0 j:=by unfold nfi nfZ;rw [zaq gq]
  rw [e11] at i11
  refine sI rfl hjl ?_
  have hk11:∀c,c<3*n7→h11 c=h7 c:=fun c hc=>by
   have e0:h7 c=h7 c:=rfl
   exact zp
  have o11:=o7.go intP.kp (show Tr n7 h7 n11 h11 from zt) (hk11 _ o7.1)
  refine sZt (n0:=n) (j:=j) (q:=nfi qs.length (aQ qs) 0 j) [.bool b11,.slice a11 l11 c11] o11 intP.kp (by rw [yI];exact hjl) (Nat.zero_add _) ⟨_,_,_,_,rfl,i11⟩ zo ?_
  rw [rR hjl]
  intro h12 o12 s12 w12
  refine zG ?_
  refine zu [0,0,0,6,14,31,63] rfl ?_
  have p712:h12 B6=_:=(s12.1 B6 zo).trans ((hk11 B6 zo).trans p7)
  refine zH ?_
  obtain ⟨c13,⟨b13,a13,l13,c13,rfl,i13⟩,_,t13⟩:=o12.get (xn hjl) (off:=0+j*2) (Nat.zero_add _)
  rw [if_pos (Nat.lt_succ_self _)] at i13
  refine dI rfl hjl ?_
  refine dL t13 o12.1 0 ?_
  have T12:Tr n7 h7 n11 h12:=Tr.s s12 (show Tr n7 h7 n11 h11 from zt)
  refine dC (gcdX _ ((g.ext X7.go zo).t T12) (i7.t T12) i13 (by rw [Int.natAbs_natCast];exact hg7) (hPB (ie hz hP hjl))) ?_
  rintro _ h14 n14 ⟨b14,a14,l14,c14,rfl,i14⟩ y14 x14
  refine dS [.bool b14,.slice a14 l14 c14] ?_
  intro h15 p15 o15
  refine zG ?_
  have hk15:∀c,c<3*n7→c≠BR→c≠B6→h15 c=h7 c:=fun c hc h1 h2=>(o15.1 c h2).trans ((x14 c zo).trans ((s12.1 c h1).trans (hk11 c hc)))
  have T15:Tr n7 h7 n14 h15:=Tr.s o15 (Tr.e x14 y14 T12)
  have eBR:h15 BR=h12 BR:=(o15.1 BR zo).trans (x14 BR o12.1)
  exact sK (j+1,b14,a14,l14,c14) ⟨rfl,zo,fun c hc hn=>(by
   simp only [List.mem_cons,List.not_mem_nil,or_false,not_or] at hn
   exact (hk15 c zo hn.1 hn.2).trans (Y7 c hc (by simp [hn]))),o12.go intP.kp (show Tr n11 h12 n14 h15 from Tr.s o15 (Tr.e x14 y14 (Tr.refl _ _))) eBR,(by
    obtain ⟨C,hC⟩:=ty7
    obtain ⟨C2,h2⟩:=w12 _ ⟨C,(hk11 _ o7.1).trans hC⟩
    exact ⟨C2,eBR.trans h2⟩),p15,(i14.t (Tr.s o15 (Tr.refl _ _))).as (by show _=((Nat.gcd _ _:Nat):Int);rw [Int.natAbs_natCast]),T7.trans T15,(by show j+1≤_;omega)⟩
 have hjl:j=qs.length:=zo
 subst hjl
 refine zG ?_
 refine sC (yJ _ i7) ?_
 rintro _ h8 n8 ⟨b8,rfl,bq8⟩ y8 x8
 rcases bvs bq8 with ⟨rfl,q8⟩|⟨rfl,q8⟩
 ·have hg0:¬gcF (nfi qs.length (aQ qs) 0) qs.length=0:=fun e=>q8 (by rw [e];rfl)
  have hcc:cci qs.length (aQ qs) 0=gcF (nfi qs.length (aQ qs) 0) qs.length:=by unfold cci ccF;rw [if_neg hg0]
  rw [←hcc] at i7 hg7
  have hcz:((cci qs.length (aQ qs) 0:Nat):Int)≠0:=by rw [hcc];omega
  have X8:Exo n h h8:=⟨fun c hc=>(x8 c zo).trans (X7.go c hc)⟩
  have p48:h8 B4=_:=(x8 B4 zo).trans p47
  have p38:h8 (3*n+2)=_:=(x8 _ zo).trans p37
  have p68:h8 B6=_:=(x8 B6 zo).trans p7
  have i48:=i47.t (show Tr n7 h7 n8 h8 from zt)
  have i68:=i7.t (show Tr n7 h7 n8 h8 from zt)
  refine zG ?_
  refine sF (α:=Nat) (fun z=>[(3,.pointer (some ⟨3*n+2,0,none⟩)),(4,.pointer (some ⟨B4,0,none⟩)),(5,.slice (some ⟨BR,0,none⟩) qs.length qs.length),(6,.pointer (some ⟨B6,0,none⟩)),(40,.slice (some ⟨BR,0,none⟩) qs.length qs.length),(41,.int .i64 (qs.length:Int)),(42,.int .i64 (z:Int))]) (fun z h' n' w'=>w'=[]∧n8≤n'∧ExtB n8 [BR] h8 h'∧OZ h' n' BR (mixF (tT qs.length (aQ qs) 0) (nfi qs.length (aQ qs) 0) z qs.length)∧Ty1 h' BR 47∧Tr n8 h8 n' h'∧z≤qs.length) (fun z=>qs.length-z) 0 ⟨rfl,Nat.le_refl _,ExtB.refl _ _ _,(o7.xx intP.kp zx).as ij,(by obtain ⟨C,hC⟩:=ty7;exact ⟨C,(x8 _ o7.1).trans hC⟩),Tr.refl _ _,Nat.zero_le _⟩ ?_
  rintro i t h9 n9 _ ⟨rfl,y9,Y9,o9,ty9,T9,hi⟩
  have y9:n8≤n9:=y9
  have o9:OZ h9 n9 BR (mixF (tT qs.length (aQ qs) 0) (nfi qs.length (aQ qs) 0) i qs.length):=o9
  have ty9:Ty1 h9 BR _:=ty9
  have T9:Tr n8 h8 n9 h9:=T9
  have hi:i≤qs.length:=hi
  have X9:Exo n h h9:=⟨fun c hc=>(Y9 c zo (by simp;omega)).trans (X8.go c hc)⟩
  have p49:h9 B4=_:=(Y9 B4 zo (by simp;omega)).trans p48
  have p39:h9 (3*n+2)=_:=(Y9 _ zo (by simp;omega)).trans p38
  have p69:h9 B6=_:=(Y9 B6 zo (by simp;omega)).trans p68
  have i49:=i48.t T9
  have i69:=i68.t T9
  refine zG ?_
  by_cases q9:(i:Int)<(qs.length:Int)
  ·have hil:i<qs.length:=zo
   refine zG ?_
   obtain ⟨c10,⟨b10,a10,l10,c10,rfl,i10⟩,_,t10⟩:=o9.get (xn hil) (off:=0+i*2) (Nat.zero_add _)
   rw [if_neg (Nat.lt_irrefl _)] at i10
   refine sI rfl hil ?_
   refine sL t10 o9.1 0 ?_
   refine sA ?_
   intro h11 p11 x11
   refine zG ?_
   refine sS [.bool b10,.slice a10 l10 c10] ?_
   intro h12 p12 o12
   refine zG ?_
   refine sC (quoX _ (i10.t zt) (i69.t zt) (hPB (ie hz hP hil)) (by rw [Int.natAbs_natCast];exact hg7) hcz) ?_
   rintro _ h13 n13 ⟨b13,a13,l13,c13,rfl,i13⟩ y13 x13
   have i13:IW h13 n13 b13 a13 l13 c13 (tT qs.length (aQ qs) 0 i):=i13
   refine sI rfl hil ?_
   have hk13:∀c,c<3*n9→h13 c=h9 c:=fun c hc=>by
    have e0:h9 c=h9 c:=rfl
    exact zp
   refine sZt (n0:=n) (j:=i) (q:=tT qs.length (aQ qs) 0 i) [.bool b13,.slice a13 l13 c13] (o9.go intP.kp (show Tr n9 h9 n13 h13 from zt) (hk13 _ o9.1)) intP.kp (by rw [yI];exact hil) (Nat.zero_add _) ⟨_,_,_,_,rfl,i13⟩ zo ?_
   rw [rR hil]
   intro h14 o14 s14 w14
   refine zG ?_
   exact sK (i+1) ⟨rfl,zo,fun c hc hn=>(by
    simp only [List.mem_cons,List.not_mem_nil,or_false] at hn
    exact (s14.1 c hn).trans ((hk13 c zo).trans (Y9 c hc (by simp [hn])))),o14,(by
    obtain ⟨C,hC⟩:=ty9
    exact w14 _ ⟨C,(hk13 _ o9.1).trans hC⟩),T9.trans (Tr.s s14 zt),(by show i+1≤_;omega)⟩
  have hil:i=qs.length:=zo
  subst hil
  refine zG ?_
  refine sC (mF _ (g.ext X9.go zo) i49 i69 (by rw [Int.natAbs_natCast];exact hPB (oR hz hP)) (by rw [Int.natAbs_natCast];exact hg7) hcz) ?_
  rintro _ h10 n10 ⟨b10,a10,l10,c10,d10,e10,f10,u10,rfl,i10,j10⟩ y10 x10
  refine zG ?_
  refine sS [.bool b10,.slice a10 l10 c10,.bool d10,.slice e10 f10 u10] ?_
  intro h11 p11 o11
  have hk11:∀c,c<3*n9→c≠3*n+2→h11 c=h9 c:=fun c hc hn=>(o11.1 c hn).trans (x10 c hc)
  have T11:Tr n9 h9 n10 h11:=zt
  have X11:Exo n h h11:=⟨fun c hc=>(hk11 c zo zo).trans (X9.go c hc)⟩
  clear Y9 Y7
  refine zq ?_ (hx:=⟨zo,X11.go⟩)
  exact ⟨BR,_,_,_,_,_,_,_,_,_,_,rfl,zo,gB,o9.go intP.kp T11 (hk11 BR o9.1 zo),(by obtain ⟨C,hC⟩:=ty9;exact ⟨C,(hk11 BR o9.1 zo).trans hC⟩),ScR.mk1 hz hP hg0,i10.t (Tr.s o11 (Tr.refl _ _)),j10.t (Tr.s o11 (Tr.refl _ _))⟩
 have hg0:gcF (nfi qs.length (aQ qs) 0) qs.length=0:=Int.ofNat.inj q8
 refine zG ?_
 refine sC (dR _ _ _) ?_
 rintro _ h9 n9 ⟨b9,a9,l9,c9,d9,e9,f9,u9,rfl,i9,j9⟩ y9 x9
 have p38:h8 (3*n+2)=_:=(x8 _ zo).trans p37
 have p39:h9 (3*n+2)=_:=(x9 _ zo).trans p38
 refine zG ?_
 refine sS [.bool b9,.slice a9 l9 c9,.bool d9,.slice e9 f9 u9] ?_
 intro h10 p10 o10
 have hk10:∀c,c<3*n7→c≠3*n+2→h10 c=h7 c:=fun c hc hn=>(o10.1 c hn).trans ((x9 c zo).trans (x8 c hc))
 have T10:Tr n7 h7 n9 h10:=zt
 have X10:Exo n h h10:=⟨fun c hc=>(hk10 c zo zo).trans (X7.go c hc)⟩
 clear Y7
 refine zq ?_ (hx:=⟨zo,X10.go⟩)
 exact ⟨BR,_,_,_,_,_,_,_,_,_,_,rfl,zo,gB,(o7.go intP.kp T10 (hk10 BR o7.1 zo)).as ij,(by obtain ⟨C,hC⟩:=ty7;exact ⟨C,(hk10 BR o7.1 zo).trans hC⟩),ScR.mk0 hz hP hg0,i9.t (Tr.s o10 (Tr.refl _ _)),j9.t (Tr.s o10 (Tr.refl _ _))⟩
end
section
section
variable {l n bs N m:Nat}{h:HF}{asc alo ahi a4 a5 a6 a7 a9:Option Addr}{l4 c4 l5 c5 l6 c6 l7 c7 l9 c9:Nat}{b8:Bool}{ty:TypeId}{sc:List Rat}{lo hi:List (Bool×Rat)}
theorem zgm (k:Nat)(g:GG h n)(st:h bs=some (.row [.int .i64 (N:Int),.slice asc m m,.slice alo m m,.slice ahi m m,.slice a4 l4 c4,.slice a5 l5 c5,.slice a6 l6 c6,.slice a7 l7 c7,.bool b8,.slice a9 l9 c9] ty))(hbs:bs<3*n)(gb:gro bs=false)(hl:l≤n)(gs:GR 4 ratP l h n 49 (.slice asc m m) sc)(gl:GR 5 bndP l h n 105 (.slice alo m m) lo)(gh:GR 5 bndP l h n 105 (.slice ahi m m) hi)(dj:∀b,BkOf (.slice ahi m m) b→¬BkOf (.slice alo m m) b)
  (ms:sc.length=m)(ml:lo.length=m)(mh:hi.length=m)(hm:m<999999){aA:Option Addr}{lA kA:Nat}{x1 b1 d1 x2 b2 d2 b3 d3:Bool}{a1 e1 a2 e2 a3 e3:Option Addr}{l1 c1 f1 u1 l2 c2 f2 u2 l3 c3 f3 u3:Nat}{q1 q2 r:Rat}(i1:IW h n b1 a1 l1 c1 q1.num)(j1:IW h n d1 e1 f1 u1 (denZ q1))(i2:IW h n b2 a2 l2 c2 q2.num)(j2:IW h n d2 e2 f2 u2 (denZ q2))(i3:IW h n b3 a3 l3 c3 r.num)(j3:IW h n d3 e3 f3 u3 (denZ r)){a b:Nat}(z1:Sz a q1)(z2:Sz a q2)(z3:Sz b r)(hab:a+b≤2496):
  CF (cal (k+11)) 57 [.pointer (some ⟨bs,0,none⟩),.agg #[.slice aA lA kA,.bool x1,.bool b1,.slice a1 l1 c1,.bool d1,.slice e1 f1 u1,.bool x2,.bool b2,.slice a2 l2 c2,.bool d2,.slice e2 f2 u2],.agg #[.bool b3,.slice a3 l3 c3,.bool d3,.slice e3 f3 u3]] h n fun _ h' n' w=>n≤n'∧∃aS al ah,h' bs=some (.row [.int .i64 (N:Int),.slice aS (m+1) (m+1),.slice al (m+1) (m+1),.slice ah (m+1) (m+1),.slice a4 l4 c4,.slice a5 l5 c5,.slice a6 l6 c6,.slice a7 l7 c7,.bool b8,.slice a9 l9 c9] ty)∧GR 4 ratP l h' n' 49 (.slice aS (m+1) (m+1)) (sc++[r])∧GR 5 bndP l h' n' 105 (.slice al (m+1) (m+1)) (lo++[(x1,q1*r)])∧GR 5 bndP l h' n' 105 (.slice ah (m+1) (m+1)) (hi++[(x2,q2*r)])∧(∀b,BkOf (.slice ah (m+1) (m+1)) b→¬BkOf (.slice al (m+1) (m+1)) b)∧(∀b,BkOf (.slice aS (m+1) (m+1)) b→3*n≤b)∧Tr n h n' h'∧(∀b,b<3*n→b≠bs→¬BkOf (.slice asc m m) b→¬BkOf (.slice alo m m) b→¬BkOf (.slice ahi m m) b→h' b=h b)∧(∀c∈w,c=bs∨3*l≤c):=by
 refine pi (fn:=Tryz.f57) R4 ?_
 refine zG ?_
 refine sB [.slice aA lA kA,.bool x1,.bool b1,.slice a1 l1 c1,.bool d1,.slice e1 f1 u1,.bool x2,.bool b2,.slice a2 l2 c2,.bool d2,.slice e2 f2 u2] ?_
 intro h1 p1 y1
 refine sB [.bool b3,.slice a3 l3 c3,.bool d3,.slice e3 f3 u3] ?_
 intro h2 p2 y2
 refine zG ?_
 refine zu [0,0,2,6,14,0,32,126,255,511,1023] rfl ?_
 refine zH ?_
 refine dMs [.bool b3,.slice a3 l3 c3,.bool d3,.slice e3 f3 u3] ?_
 intro h3 p3 y3
 have X3:Exo n h h3:=⟨(show Tx n h (n+1+1+1) h3 from zx).2⟩
 refine dGA (n0:=n) (q:=r) [.bool b3,.slice a3 l3 c3,.bool d3,.slice e3 f3 u3] (gs.ext ratP.kp X3.go zo) ratP.kp ⟨_,_,_,_,_,_,_,_,rfl,i3.ext X3.go zo,j3.ext X3.go zo⟩ (yC p3 R2) zo zo (fun W hW=>by (repeat (first|rfl|(refine rF rfl ?_)))) ?_
 intro v4 h4 W4 hW4 g4 T4 E4 K4 F4
 obtain ⟨aS,rfl⟩:=g4.shape (L:=m+1) (by rw [List.length_append,ms];rfl)
 have nS:∀k,¬BkOf (.slice asc m m) (3*k+2):=fun k=>gs.nbk (zA _)
 have s4:=(K4 bs zo (gs.nbk gb)).trans ((X3.go bs hbs).trans st)
 refine zH ?_
 refine dSx (n0:=n) [.int .i64 (N:Int),.slice aS (m+1) (m+1),.slice alo m m,.slice ahi m m,.slice a4 l4 c4,.slice a5 l5 c5,.slice a6 l6 c6,.slice a7 l7 c7,.bool b8,.slice a9 l9 c9] s4 ?_
 intro h5 p5 o5
 have T5:Tr n h (n+1+1+1+1) h5:=Tr.s o5 ((show Tr n h (n+1+1+1) h3 from zt).trans T4)
 have k5:∀c,c<3*(n+1+1+1)→c≠bs→¬BkOf (.slice asc m m) c→h5 c=h3 c:=fun c hc h1 h2=>(o5.1 c h1).trans (K4 c hc h2)
 have p15:h5 (3*n+2)=_:=(k5 (3*n+2) zo zo (nS _)).trans zp
 have p25:h5 (3*(n+1)+2)=_:=(k5 (3*(n+1)+2) zo zo (nS _)).trans zp
 have gs5:=g4.go ratP.kp (Tr.s o5 (Tr.refl _ _)) fun b hb=>o5.1 b (by have:=F4 b hb;omega)
 have K5:∀b,b<3*n→b≠bs→¬BkOf (.slice asc m m) b→h5 b=h b:=fun b hb h1 h2=>(k5 b zo h1 h2).trans (X3.go b hb)
 have gl5:=gl.kb bndP.kp T5 gb K5 (gl.ne gs zd)
 have gh5:=gh.kb bndP.kp T5 gb K5 (gh.ne gs zd)
 clear p1 y1 p2 y2 p3 y3
 refine zG ?_
 refine zu [0,0,2,6,14,0,32,96,0,256,768,0,3840,8160,16352,32766,65535,131071,262143] rfl ?_
 refine zH ?_
 refine dC (mulQ _ (g.t T5) (i1.t T5) (j1.t T5) (i3.t T5) (j3.t T5) z1 z3 hab) ?_
 rintro _ h6 n6 ⟨b6,v6,l6',c6',d6,e6,f6,u6,rfl,i6,j6⟩ y6 x6
 refine dT #[.bool x1,.bool b6,.slice v6 l6' c6',.bool d6,.slice e6 f6 u6] ?_
 refine dMs [.bool x1,.bool b6,.slice v6 l6' c6',.bool d6,.slice e6 f6 u6] ?_
 intro h7 p7 x7
 have X7:Exo (n+1+1+1+1) h5 h7:=⟨(show Tx (n+1+1+1+1) h5 (n6+1) h7 from zx).2⟩
 refine dGA (n0:=n) (q:=(x1,q1*r)) [.bool x1,.bool b6,.slice v6 l6' c6',.bool d6,.slice e6 f6 u6] (gl5.ext bndP.kp X7.go zo) bndP.kp ⟨_,_,_,_,_,_,_,_,rfl,i6.ext x7 zs,j6.ext x7 zs⟩ (yC p7 R2) zo zo (fun W hW=>by (repeat (first|rfl|(refine rF rfl ?_)))) ?_
 intro v8 h8 W8 hW8 g8 T8 E8 K8 F8
 obtain ⟨al,rfl⟩:=g8.shape (L:=m+1) (by rw [List.length_append,ml];rfl)
 have nL:∀k,¬BkOf (.slice alo m m) (3*k+2):=fun k=>gl.nbk (zA _)
 have s8:=(K8 bs zo (gl.nbk gb)).trans ((X7.go bs zo).trans p5)
 refine zH ?_
 refine dSx (n0:=n) [.int .i64 (N:Int),.slice aS (m+1) (m+1),.slice al (m+1) (m+1),.slice ahi m m,.slice a4 l4 c4,.slice a5 l5 c5,.slice a6 l6 c6,.slice a7 l7 c7,.bool b8,.slice a9 l9 c9] s8 ?_
 intro h9 p9 o9
 have T9:Tr (n+1+1+1+1) h5 (n6+1+1) h9:=Tr.s o9 ((show Tr (n+1+1+1+1) h5 (n6+1) h7 from ⟨zo,fun c hc=>.inl (X7.go c hc)⟩).trans T8)
 have k9:∀c,c<3*(n+1+1+1+1)→c≠bs→¬BkOf (.slice alo m m) c→h9 c=h5 c:=fun c hc h1 h2=>(o9.1 c h1).trans ((K8 c zo h2).trans (X7.go c hc))
 have p19:h9 (3*n+2)=_:=(k9 (3*n+2) zo zo (nL _)).trans p15
 have p29:h9 (3*(n+1)+2)=_:=(k9 (3*(n+1)+2) zo zo (nL _)).trans p25
 have gs9:=gs5.kb ratP.kp T9 gb k9 (gs5.ne gl5 zd)
 have gl9:=g8.go bndP.kp (Tr.s o9 (Tr.refl _ _)) fun b hb=>o9.1 b (by have:=F8 b hb;omega)
 have gh9:=gh5.kb bndP.kp T9 gb k9 dj
 have T59:=T5.trans T9
 have n9:n+1+1+1+1≤n6+1+1:=zo
 have n69:n+1+1+1+1≤n6:=y6
 clear p15 p25 p5 p7 x6 x7 y6
 generalize n6+1+1=m9 at*
 refine zG ?_
 refine zu [0,0,2,6,14,0,32,96,0,256,768,0,3840,8160,16352,32766,65535,131071,262143] rfl ?_
 refine zH ?_
 refine dC (mulQ _ (g.t T59) (i2.t T59) (j2.t T59) (i3.t T59) (j3.t T59) z2 z3 hab) ?_
 rintro _ h10 n10 ⟨b10,v10,l10,c10,d10,e10,f10,u10,rfl,i10,j10⟩ y10 x10
 refine dT #[.bool x2,.bool b10,.slice v10 l10 c10,.bool d10,.slice e10 f10 u10] ?_
 refine dMs [.bool x2,.bool b10,.slice v10 l10 c10,.bool d10,.slice e10 f10 u10] ?_
 intro h11 p11 x11
 have X11:Exo m9 h9 h11:=⟨(show Tx m9 h9 (n10+1) h11 from zx).2⟩
 refine dGA (n0:=n) (q:=(x2,q2*r)) [.bool x2,.bool b10,.slice v10 l10 c10,.bool d10,.slice e10 f10 u10] (gh9.ext bndP.kp X11.go zo) bndP.kp ⟨_,_,_,_,_,_,_,_,rfl,i10.ext x11 zs,j10.ext x11 zs⟩ (yC p11 R2) zo zo (fun W hW=>by (repeat (first|rfl|(refine rF rfl ?_)))) ?_
 intro v12 h12 W12 hW12 g12 T12 E12 K12 F12
 obtain ⟨ah,rfl⟩:=g12.shape (L:=m+1) (by rw [List.length_append,mh];rfl)
 have s12:=(K12 bs zo (gh.nbk gb)).trans ((X11.go bs zo).trans p9)
 refine zH ?_
 refine dSx (n0:=n) [.int .i64 (N:Int),.slice aS (m+1) (m+1),.slice al (m+1) (m+1),.slice ah (m+1) (m+1),.slice a4 l4 c4,.slice a5 l5 c5,.slice a6 l6 c6,.slice a7 l7 c7,.bool b8,.slice a9 l9 c9] s12 ?_
 intro h13 p13 o13
 have T13:Tr m9 h9 (n10+1+1) h13:=Tr.s o13 ((show Tr m9 h9 (n10+1) h11 from ⟨zo,fun c hc=>.inl (X11.go c hc)⟩).trans T12)
 have k13:∀c,c<3*m9→c≠bs→¬BkOf (.slice ahi m m) c→h13 c=h9 c:=fun c hc h1 h2=>(o13.1 c h1).trans ((K12 c zo h2).trans (X11.go c hc))
 refine zG ?_
 have hin:bs∈addW n [bs] (addW n W12 (addW n [bs] (addW n W8 (addW n [bs] (addW n W4 []))))):=jA hbs (by simp)
 refine ⟨rfl,[],rfl,⟨zo,aS,al,ah,p13,gs9.kb ratP.kp T13 gb k13 (gs9.ne gh9 zd),gl9.kb bndP.kp T13 gb k13 (fun b hb hb2=>?_),g12.go bndP.kp (Tr.s o13 (Tr.refl _ _)) (fun b hb=>o13.1 b (by have:=F12 b hb;omega)),fun b hb hb2=>?_,fun b hb=>by have:=F4 b hb;omega,T59.trans T13,fun b hb h1 h2 h3 h4=>(k13 b zo h1 h4).trans ((k9 b zo h1 h3).trans (K5 b hb h1 h2)),vM (fun c hc=>.inl (List.mem_singleton.1 hc)) (vM (fun c hc=>.inr (hW12 c hc)) (vM (fun c hc=>.inl (List.mem_singleton.1 hc)) (vM (fun c hc=>.inr (hW8 c hc)) (vM (fun c hc=>.inl (List.mem_singleton.1 hc)) (vM (fun c hc=>.inr (hW4 c hc)) (fun c hc=>absurd hc List.not_mem_nil))))))⟩,fun hw=>?_⟩
 ·have h1:=F8 b hb
  have h2:=(gh.bk b hb2).2.1
  omega
 ·have h1:=F12 b hb
  have h2:=(gl9.bk b hb2).2.1
  omega
 have hw:addW n [bs] (addW n W12 (addW n [bs] (addW n W8 (addW n [bs] (addW n W4 [])))))=[]:=hw
 rw [hw] at hin
 cases hin
end
end
section
noncomputable def dN (ds:List SideD)(j:Nat):Sol:=⟨ds.length,List.replicate j 1,(ds.take j).map fun d=>(true,zk d.lo),(ds.take j).map fun d=>(true,zk d.hi),(ds.take j).map fun d=>zk d.lo,[],List.range j,[],1⟩
theorem oD {α β:Type}{f:α→β}{l:List α}{j:Nat}{d:α}(h:l[j]?=some d):(l.take j).map f++[f d]=(l.take (j+1)).map f:=by
 rw [yV h,List.map_append]
 rfl
section
variable {ds:List SideD}{j:Nat}
theorem pV (h:j≤ds.length):(ds.take j).length=j:=by rw [List.length_take];omega
end
theorem fF (k:Nat){h:HF}{n:Nat}(g:GG h n){ao aR ac:Option Addr}{lo co cR lc cc:Nat}{cs:List Rat}{ds:List SideD}(io:QS h n (.slice ao lo co) cs)(ic:SDS h n (.slice ac lc cc) ds){a P:Nat}(hds:∀d∈ds,d.lo≠[]∧d.hi≠[]∧Sz a (zk d.lo)∧Sz a (zk d.hi))(hz:∀q∈cs,Sz a q)(hP:a*cs.length+a+1≤P)(hP2:P≤2490)(hL:cs.length=ds.length)(hL2:ds.length≤1000):
  CX (cal (k+13)) 22 [.agg #[.slice ao lo co,.slice aR 0 cR,.slice ac lc cc]] h n fun w h' n'=>∃bs A B zs s,w=.pointer (some ⟨bs,0,none⟩)∧3*n≤bs∧SM n h' n' bs {dN ds ds.length with ta:=[(B,zs)]} A∧ScR cs P zs s:=by
 have lo1:=io.len
 have lc1:=ic.len
 subst lo1 lc1
 have ha:a≤P:=zo
 refine zv (fn:=Tryz.f22) R4 ?_
 refine zG ?_
 refine sB [.slice ao cs.length co,.slice aR 0 cR,.slice ac ds.length cc] ?_
 intro h1 p1 x1
 refine zG ?_
 refine zu [0,1,3,0,15,31,63] rfl ?_
 refine zH ?_
 refine dC (zbs _ _ _) ?_
 rintro _ h2 n2 ⟨b2,a2,l2,c2,rfl,i2⟩ y2 x2
 refine dT #[.int .i64 (ds.length:Int),.slice none 0 0,.slice none 0 0,.slice none 0 0,.slice none 0 0,.slice none 0 0,.slice none 0 0,.slice none 0 0,.bool b2,.slice a2 l2 c2] ?_
 refine dB [.int .i64 (ds.length:Int),.slice none 0 0,.slice none 0 0,.slice none 0 0,.slice none 0 0,.slice none 0 0,.slice none 0 0,.slice none 0 0,.bool b2,.slice a2 l2 c2] ?_
 intro h3 p3 x3
 obtain ⟨bs,hB⟩:∃B,B=3*n2+2:=⟨_,rfl⟩
 have gb:gro bs=false:=by rw [hB];exact zA _
 rw [←hB] at p3 ⊢
 have s3:SM n h3 (n2+1) bs (dN ds 0) ⟨none,none,none,none,none,none,none⟩:=⟨⟨b2,a2,l2,c2,_,p3,i2.ext x3 zs⟩,⟨zo,gb⟩,GR.nil,GR.nil,GR.nil,GR.nil,GR.nil,GR.nil,GR.nil,fun r hr=>absurd hr List.not_mem_nil,fun b hb=>by obtain ⟨_,_,_,e⟩:=hb;cases e⟩
 have X3:Exo n h h3:=⟨(show Tx n h (n2+1) h3 from zx).2⟩
 have p13:h3 (3*n+2)=_:=(zp:h3 (3*n+2)=_)
 have y3:n+1≤n2:=y2
 clear p3 x3 i2 x2 x1 p1 y2
 refine zJ ?_
 refine sF (α:=Nat×Adr) (fun z=>[(1,.pointer (some ⟨3*n+2,0,none⟩)),(3,.pointer (some ⟨bs,0,none⟩)),(19,.slice ac ds.length cc),(20,.int .i64 (ds.length:Int)),(21,.int .i64 (z.1:Int))]) (fun z h' n' w'=>w'=[]∧n2+1≤n'∧Ext n h h'∧h' (3*n+2)=some (.row [.slice ao cs.length co,.slice aR 0 cR,.slice ac ds.length cc] 57)∧SM n h' n' bs (dN ds z.1) z.2∧(∀b,BkOf (.slice z.2.hi (dN ds z.1).hi.length (dN ds z.1).hi.length) b→¬BkOf (.slice z.2.lo (dN ds z.1).lo.length (dN ds z.1).lo.length) b)∧(z.2.ba=none∧z.2.ta=none)∧z.1≤ds.length) (fun z=>ds.length-z.1) (0,⟨none,none,none,none,none,none,none⟩) ⟨rfl,Nat.le_refl _,X3.go,p13,s3,(fun b hb=>by obtain ⟨_,_,_,e⟩:=hb;cases e),⟨rfl,rfl⟩,Nat.zero_le _⟩ ?_
 rintro ⟨j,A⟩ t h4 n4 _ ⟨rfl,y4,X4,p4,s4,dj4,⟨hBa,hTa⟩,hj⟩
 have y4:n2+1≤n4:=y4
 replace X4:Exo n h h4:=⟨X4⟩
 have p4:h4 (3*n+2)=some (.row [.slice ao cs.length co,.slice aR 0 cR,.slice ac ds.length cc] 57):=p4
 have s4:SM n h4 n4 bs (dN ds j) A:=s4
 have hj:j≤ds.length:=hj
 have hBa:A.ba=none:=hBa
 have hTa:A.ta=none:=hTa
 have g4:GG h4 n4:=g.ext X4.go zo
 have eM:((ds.take j).map fun d=>zk d.lo).length=j:=by rw [List.length_map,pV hj]
 have eH:((ds.take j).map fun d=>(true,zk d.hi)).length=j:=by rw [List.length_map,pV hj]
 have eL:((ds.take j).map fun d=>(true,zk d.lo)).length=j:=by rw [List.length_map,pV hj]
 have eS:(List.replicate j (1:Rat)).length=j:=List.length_replicate
 have eR:(List.range j).length=j:=List.length_range
 have dj4:∀b,BkOf (.slice A.hi ((ds.take j).map fun d=>(true,zk d.hi)).length ((ds.take j).map fun d=>(true,zk d.hi)).length) b→¬BkOf (.slice A.lo ((ds.take j).map fun d=>(true,zk d.lo)).length ((ds.take j).map fun d=>(true,zk d.lo)).length) b:=dj4
 obtain ⟨⟨b5,a5,l5,c5,ty,st,iD⟩,⟨hbs,_⟩,gS,gL,gH,gV,gB,gN,gT,_,djV⟩:=s4
 have iD:IW h4 n4 b5 a5 l5 c5 1:=iD
 have st:h4 bs=some (.row [.int .i64 (ds.length:Int),.slice A.sc (List.replicate j (1:Rat)).length (List.replicate j (1:Rat)).length,.slice A.lo ((ds.take j).map fun d=>(true,zk d.lo)).length ((ds.take j).map fun d=>(true,zk d.lo)).length,.slice A.hi ((ds.take j).map fun d=>(true,zk d.hi)).length ((ds.take j).map fun d=>(true,zk d.hi)).length,.slice A.va ((ds.take j).map fun d=>zk d.lo).length ((ds.take j).map fun d=>zk d.lo).length,.slice A.ba 0 0,.slice A.nb (List.range j).length (List.range j).length,.slice A.ta 0 0,.bool b5,.slice a5 l5 c5] ty):=st
 have gS:GR 4 ratP n h4 n4 49 (.slice A.sc (List.replicate j (1:Rat)).length (List.replicate j (1:Rat)).length) (List.replicate j 1):=gS
 have gL:GR 5 bndP n h4 n4 105 (.slice A.lo ((ds.take j).map fun d=>(true,zk d.lo)).length ((ds.take j).map fun d=>(true,zk d.lo)).length) ((ds.take j).map fun d=>(true,zk d.lo)):=gL
 have gH:GR 5 bndP n h4 n4 105 (.slice A.hi ((ds.take j).map fun d=>(true,zk d.hi)).length ((ds.take j).map fun d=>(true,zk d.hi)).length) ((ds.take j).map fun d=>(true,zk d.hi)):=gH
 have gV:GR 4 ratP n h4 n4 49 (.slice A.va ((ds.take j).map fun d=>zk d.lo).length ((ds.take j).map fun d=>zk d.lo).length) ((ds.take j).map fun d=>zk d.lo):=gV
 have gB:GR 1 natP n h4 n4 3 (.slice A.ba 0 0) []:=gB
 have gN:GR 1 natP n h4 n4 3 (.slice A.nb (List.range j).length (List.range j).length) (List.range j):=gN
 have gT:GR 1 rwP n h4 n4 73 (.slice A.ta 0 0) []:=gT
 have djV:∀b,BkOf (.slice A.va ((ds.take j).map fun d=>zk d.lo).length ((ds.take j).map fun d=>zk d.lo).length) b→¬BkOf (.slice A.sc (List.replicate j (1:Rat)).length (List.replicate j (1:Rat)).length) b:=djV
 rw [eM,eH,eL,eS,eR] at st
 rw [eS] at gS djV
 rw [eL] at gL dj4
 rw [eH] at gH dj4
 rw [eM] at gV djV
 rw [eR] at gN
 refine zG ?_
 by_cases q4:(j:Int)<(ds.length:Int)
 ·refine zG ?_
  have hjl:j<ds.length:=zo
  obtain ⟨d,gd⟩:∃d,ds[j]?=some d:=⟨_,List.getElem?_eq_getElem hjl⟩
  obtain ⟨dlo,dhi,zlo,zhi⟩:=hds d (List.mem_of_getElem? gd)
  obtain ⟨bb,off,aA,lA,kA,x6,b6,a6,l6,c6,d6,e6,f6,u6,x7,b7,a7,l7,c7,d7,e7,f7,u7,e8,m8,r8,t8,_,v6,i6,j6,v7,i7,j7⟩:=SDS.at (ic.ext (n':=n4) X4.go zo) gd
  obtain rfl:=v6.2 dlo
  obtain rfl:=v7.2 dhi
  refine sI e8 r8 ?_
  refine sL t8 m8 0 ?_
  refine sA ?_
  intro h5 p5 x5
  refine zG ?_
  refine sS [.slice aA lA kA,.bool true,.bool b6,.slice a6 l6 c6,.bool d6,.slice e6 f6 u6,.bool true,.bool b7,.slice a7 l7 c7,.bool d7,.slice e7 f7 u7] ?_
  intro h6 p6 o6
  refine zG ?_
  refine zu [0,0,0,7] rfl ?_
  refine zH ?_
  refine dC (dR _ _ _) ?_
  rintro _ h7 n7 ⟨b9,a9,l9,c9,d9,e9,f9,u9,rfl,i9,j9⟩ y7 x7
  have T7:Tr n4 h4 n7 h7:=zt
  have k7:∀c,c<3*n4→h7 c=h4 c:=fun c hc=>by
   have e0:h4 c=h4 c:=rfl
   exact zp
  have X7:Exo n4 h4 h7:=⟨k7⟩
  have hy7:n4+1≤n7:=y7
  have p67:h7 (3*n4+2)=_:=(x7 _ zo).trans p6
  have hadd:=zgm (k+1) (g4.t T7) ((k7 bs hbs).trans st) zo gb (show n≤n7 by omega) (gS.ext ratP.kp X7.go zo) (gL.ext bndP.kp X7.go zo) (gH.ext bndP.kp X7.go zo) dj4 eS eL eH zo (aA:=aA) (lA:=lA) (kA:=kA) (x1:=true) (x2:=true) (i6.t T7) (j6.t T7) (i7.t T7) (j7.t T7) i9 j9 zlo zhi (b:=1) (show Sz 1 (1:Rat) from ⟨by decide,by decide⟩) zo
  refine wV _ R7 hadd ?_
  rintro _ h8 n8 w8 ⟨y8,aS,al,ah,p8,gS8,gL8,gH8,dj8,F8,T8,k8,hw8⟩
  refine ⟨rF rfl rfl,y8,?_⟩
  have ew:addW n w8 []=[]:=z6 fun c hc=>by rcases hw8 c hc with rfl|h<;>omega
  rw [aE,ew]
  rw [Rat.mul_one,Rat.mul_one] at*
  have nS:∀b,gro b=false→¬BkOf (.slice A.sc j j) b:=fun b hb=>gS.nbk hb
  have nL:∀b,gro b=false→¬BkOf (.slice A.lo j j) b:=fun b hb=>gL.nbk hb
  have nH:∀b,gro b=false→¬BkOf (.slice A.hi j j) b:=fun b hb=>gH.nbk hb
  have K8:∀b,b<3*n4→b≠bs→¬BkOf (.slice A.sc j j) b→¬BkOf (.slice A.lo j j) b→¬BkOf (.slice A.hi j j) b→h8 b=h4 b:=fun b hb h1 h2 h3 h4=>(k8 b zo h1 h2 h3 h4).trans (k7 b hb)
  have T48:=T7.trans T8
  have q8:∀{D:Type} {sz:Nat} {P:List Value→D→HF→Nat→Prop} {v:Value} {e:TypeId} {l:List D},KP sz P→GR sz P n h4 n4 e v l→(∀b,BkOf v b→¬BkOf (.slice A.sc j j) b)→(∀b,BkOf v b→¬BkOf (.slice A.lo j j) b)→(∀b,BkOf v b→¬BkOf (.slice A.hi j j) b)→GR sz P n h8 n8 e v l:=fun kp g h1 h2 h3=>g.go kp T48 fun b hb=>K8 b (g.bk b hb).2.1 (fun e=>by have:=(g.bk b hb).2.2.1;rw [e,gb] at this;cases this) (h1 b hb) (h2 b hb) (h3 b hb)
  have gV8:=q8 ratP.kp gV djV (gV.ne gL zd) (gV.ne gH zd)
  have gB8:=q8 natP.kp gB (gB.ne gS zd) (gB.ne gL zd) (gB.ne gH zd)
  have gN8:=q8 natP.kp gN (gN.ne gS zd) (gN.ne gL zd) (gN.ne gH zd)
  have gT8:=q8 rwP.kp gT (gT.ne gS zd) (gT.ne gL zd) (gT.ne gH zd)
  have p68:h8 (3*n4+2)=_:=(k8 _ zo zo (nS _ (zA _)) (nL _ (zA _)) (nH _ (zA _))).trans p67
  have p48:h8 (3*n+2)=_:=(K8 _ zo zo (nS _ (zA _)) (nL _ (zA _)) (nH _ (zA _))).trans p4
  have lowS:∀{sz:Nat} {D:Type} {P:List Value→D→HF→Nat→Prop} {v:Value} {e:TypeId} {l:List D},GR sz P n h4 n4 e v l→∀b,b<3*n→¬BkOf v b:=fun g b hb hv=>by have:=(g.bk b hv).1;omega
  have X8:Exo n h h8:=⟨fun c hc=>(K8 c zo zo (lowS gS c hc) (lowS gL c hc) (lowS gH c hc)).trans (X4.go c hc)⟩
  have iD8:=iD.t T48
  have n48:n4+1≤n8:=zo
  have i68:=i6.t T48
  have j68:=j6.t T48
  clear k8 K8 q8 nS nL nH lowS p67 x7 hadd x5 p5 o6 p6 dj4
  refine zJ ?_
  refine wG [.int .i64 (j:Int)] (l:=1) (c:=1) R5 ?_
  intro h9 p9 x9
  refine sGA (n0:=n) [.int .i64 (j:Int)] [j] (gN8.ext natP.kp x9 zs) natP.kp (.cons (c:=[.int .i64 (j:Int)]) rfl rfl .nil) ⟨rfl,rfl⟩ (yC p9 R2) (Nat.le_refl _) (by rw [eR];show j+1<_;omega) zo ?_
  intro v10 h10 gN10 T10 E10 K10 F10
  obtain ⟨aN,rfl⟩:=gN10.shape (L:=j+1) (by rw [List.length_append,eR];rfl)
  have s10:=(K10 bs zo (gN.nbk gb)).trans ((x9 bs zo).trans p8)
  refine zG ?_
  refine sSn (n0:=n) [.int .i64 (ds.length:Int),.slice aS (j+1) (j+1),.slice al (j+1) (j+1),.slice ah (j+1) (j+1),.slice A.va j j,.slice A.ba 0 0,.slice aN (j+1) (j+1),.slice A.ta 0 0,.bool b5,.slice a5 l5 c5] ?_ (hb:=s10)
  intro h11 p11 o11
  have T11:Tr n8 h8 (n8+1+1) h11:=Tr.s o11 (Tr.trans ⟨Nat.le_succ _,fun c hc=>.inl (x9 c hc)⟩ T10)
  have k11:∀c,c<3*n8→c≠bs→¬BkOf (.slice A.nb j j) c→h11 c=h8 c:=fun c hc h1 h2=>(o11.1 c h1).trans ((K10 c zo h2).trans (x9 c hc))
  have gS11:=gS8.kb ratP.kp T11 gb k11 (gS8.ne gN8 zd)
  have gL11:=gL8.kb bndP.kp T11 gb k11 (gL8.ne gN8 zd)
  have gH11:=gH8.kb bndP.kp T11 gb k11 (gH8.ne gN8 zd)
  have gV11:=gV8.kb ratP.kp T11 gb k11 (gV8.ne gN8 zd)
  have gB11:=gB8.kb natP.kp T11 gb k11 (fun b hb=>by
   obtain ⟨o,l,c,e⟩:=hb
   rw [hBa] at e
   cases e)
  have gT11:=gT8.kb rwP.kp T11 gb k11 (gT8.ne gN8 zd)
  have gN11:=gN10.go natP.kp (Tr.s o11 (Tr.refl _ _)) fun b hb=>o11.1 b (by have:=F10 b hb;omega)
  have p611:h11 (3*n4+2)=_:=(k11 _ zo zo (gN.nbk (zA _))).trans p68
  have p411:h11 (3*n+2)=_:=(k11 _ zo zo (gN.nbk (zA _))).trans p48
  have X11:Exo n h h11:=⟨fun c hc=>(k11 c zo zo (fun hv=>by have:=(gN.bk c hv).1;omega)).trans (X8.go c hc)⟩
  have iD11:=iD8.t T11
  have i611:=i68.t T11
  have j611:=j68.t T11
  have n11:n8+1≤n8+1+1:=Nat.le_succ _
  clear k11 K10 x9 p9 p8 s10
  generalize hm:n8+1+1=m at*
  refine zG ?_
  refine zu [0,0,2,6,14,0,32,96,224,510,1023,2047,4095] rfl ?_
  refine zH ?_
  refine dMs [.bool b6,.slice a6 l6 c6,.bool d6,.slice e6 f6 u6] ?_
  intro h12 p12 x12
  refine dGA (n0:=n) (q:=zk d.lo) [.bool b6,.slice a6 l6 c6,.bool d6,.slice e6 f6 u6] (gV11.ext ratP.kp x12 zs) ratP.kp ⟨_,_,_,_,_,_,_,_,rfl,i611.ext x12 zs,j611.ext x12 zs⟩ (yC p12 R2) (by rw [eM];omega) zo (fun W hW=>by (repeat (first|rfl|(refine rF rfl ?_)))) ?_
  intro v13 h13 W13 hW13 gV13 T13 E13 K13 F13
  obtain ⟨aV,rfl⟩:=gV13.shape (L:=j+1) (by rw [List.length_append,eM];rfl)
  have s13:=(K13 bs zo (gV.nbk gb)).trans ((x12 bs zo).trans p11)
  refine zH ?_
  refine dSx (n0:=n) [.int .i64 (ds.length:Int),.slice aS (j+1) (j+1),.slice al (j+1) (j+1),.slice ah (j+1) (j+1),.slice aV (j+1) (j+1),.slice A.ba 0 0,.slice aN (j+1) (j+1),.slice A.ta 0 0,.bool b5,.slice a5 l5 c5] s13 ?_
  intro h14 p14 o14
  have T14:Tr m h11 (m+1+1) h14:=Tr.s o14 (Tr.trans ⟨Nat.le_succ _,fun c hc=>.inl (x12 c hc)⟩ T13)
  have k14:∀c,c<3*m→c≠bs→¬BkOf (.slice A.va j j) c→h14 c=h11 c:=fun c hc h1 h2=>(o14.1 c h1).trans ((K13 c zo h2).trans (x12 c hc))
  refine zG ?_
  have ew2:addW n [bs] (addW n W13 [])=[]:=by rw [wM zo,z6 (fun c hc=>by have:=hW13 c hc;omega)]
  have gV14:=gV13.go ratP.kp (Tr.s o14 (Tr.refl _ _)) fun b hb=>o14.1 b (by have:=F13 b hb;omega)
  have eD:dN ds (j+1)=⟨ds.length,List.replicate j 1++[1],((ds.take j).map fun d=>(true,zk d.lo))++[(true,zk d.lo)],((ds.take j).map fun d=>(true,zk d.hi))++[(true,zk d.hi)],((ds.take j).map fun d=>zk d.lo)++[zk d.lo],[],List.range j++[j],[],1⟩:=by
   unfold dN
   rw [oD (f:=fun d=>(true,zk d.lo)) gd,oD (f:=fun d=>(true,zk d.hi)) gd,oD (f:=fun d=>zk d.lo) gd,←List.replicate_succ',←List.range_succ]
  have eS':(List.replicate j (1:Rat)++[1]).length=j+1:=by rw [List.length_append,eS];rfl
  have eL':(((ds.take j).map fun d=>(true,zk d.lo))++[(true,zk d.lo)]).length=j+1:=by rw [List.length_append,eL];rfl
  have eH':(((ds.take j).map fun d=>(true,zk d.hi))++[(true,zk d.hi)]).length=j+1:=by rw [List.length_append,eH];rfl
  have eV':(((ds.take j).map fun d=>zk d.lo)++[zk d.lo]).length=j+1:=by rw [List.length_append,eM];rfl
  have eN':(List.range j++[j]).length=j+1:=by rw [List.length_append,eR];rfl
  refine sK (j+1,⟨aS,al,ah,aV,A.ba,aN,A.ta⟩) ⟨ew2,zo,fun c hc=>(k14 c zo zo (fun hv=>by have:=(gV.bk c hv).1;omega)).trans (X11.go c hc),(k14 _ zo zo (gV.nbk (zA _))).trans p411,?_,?_,⟨hBa,hTa⟩,by show j+1≤_;omega⟩
  ·show SM n h14 (m+1+1) bs (dN ds (j+1)) _
   rw [eD]
   refine ⟨⟨b5,a5,l5,c5,ty,?_,iD11.t T14⟩,⟨zo,gb⟩,?_,?_,?_,?_,gB11.kb natP.kp T14 gb k14 (gB11.ne gV11 zd),?_,gT11.kb rwP.kp T14 gb k14 (gT11.ne gV11 zd),fun r hr=>absurd hr List.not_mem_nil,?_⟩
   ·show h14 bs=some (.row [_,.slice aS (List.replicate j (1:Rat)++[1]).length (List.replicate j (1:Rat)++[1]).length,.slice al (((ds.take j).map fun d=>(true,zk d.lo))++[(true,zk d.lo)]).length (((ds.take j).map fun d=>(true,zk d.lo))++[(true,zk d.lo)]).length,.slice ah (((ds.take j).map fun d=>(true,zk d.hi))++[(true,zk d.hi)]).length (((ds.take j).map fun d=>(true,zk d.hi))++[(true,zk d.hi)]).length,.slice aV (((ds.take j).map fun d=>zk d.lo)++[zk d.lo]).length (((ds.take j).map fun d=>zk d.lo)++[zk d.lo]).length,.slice A.ba 0 0,.slice aN (List.range j++[j]).length (List.range j++[j]).length,.slice A.ta 0 0,_,_] ty)
    rw [eS',eL',eH',eV',eN']
    exact p14
   ·show GR _ _ _ _ _ _ (.slice aS (List.replicate j (1:Rat)++[1]).length (List.replicate j (1:Rat)++[1]).length) _
    rw [eS']
    exact gS11.kb ratP.kp T14 gb k14 (fun b hb hv=>by
     have h1:=(gS11.bk b hb).2.1
     have h2:=F8 b hb
     have h3:=(gV.bk b hv).2.1
     omega)
   ·show GR _ _ _ _ _ _ (.slice al (((ds.take j).map fun d=>(true,zk d.lo))++[(true,zk d.lo)]).length (((ds.take j).map fun d=>(true,zk d.lo))++[(true,zk d.lo)]).length) _
    rw [eL']
    exact gL11.kb bndP.kp T14 gb k14 (gL11.ne gV11 zd)
   ·show GR _ _ _ _ _ _ (.slice ah (((ds.take j).map fun d=>(true,zk d.hi))++[(true,zk d.hi)]).length (((ds.take j).map fun d=>(true,zk d.hi))++[(true,zk d.hi)]).length) _
    rw [eH']
    exact gH11.kb bndP.kp T14 gb k14 (gH11.ne gV11 zd)
   ·show GR _ _ _ _ _ _ (.slice aV (((ds.take j).map fun d=>zk d.lo)++[zk d.lo]).length (((ds.take j).map fun d=>zk d.lo)++[zk d.lo]).length) _
    rw [eV']
    exact gV14
   ·show GR _ _ _ _ _ _ (.slice aN (List.range j++[j]).length (List.range j++[j]).length) _
    rw [eN']
    exact gN11.kb natP.kp T14 gb k14 (gN11.ne gV11 zd)
   show ∀b,BkOf (.slice aV (((ds.take j).map fun d=>zk d.lo)++[zk d.lo]).length (((ds.take j).map fun d=>zk d.lo)++[zk d.lo]).length) b→¬BkOf (.slice aS (List.replicate j (1:Rat)++[1]).length (List.replicate j (1:Rat)++[1]).length) b
   rw [eV',eS']
   intro b hb hb2
   have h1:=F13 b hb
   have h2:=(gS11.bk b hb2).2.1
   omega
  show ∀b,BkOf (.slice ah (dN ds (j+1)).hi.length (dN ds (j+1)).hi.length) b→¬BkOf (.slice al (dN ds (j+1)).lo.length (dN ds (j+1)).lo.length) b
  rw [eD]
  show ∀b,BkOf (.slice ah (((ds.take j).map fun d=>(true,zk d.hi))++[(true,zk d.hi)]).length (((ds.take j).map fun d=>(true,zk d.hi))++[(true,zk d.hi)]).length) b→¬BkOf (.slice al (((ds.take j).map fun d=>(true,zk d.lo))++[(true,zk d.lo)]).length (((ds.take j).map fun d=>(true,zk d.lo))++[(true,zk d.lo)]).length) b
  rw [eH',eL']
  exact dj8
 have hjl:j=ds.length:=zo
 clear dj4
 subst hjl
 refine zG ?_
 refine sF (α:=Unit) (fun _=>[(1,.pointer (some ⟨3*n+2,0,none⟩)),(3,.pointer (some ⟨bs,0,none⟩)),(84,.slice aR 0 cR),(85,.int .i64 0),(86,.int .i64 0)]) (fun _ h' n' w'=>w'=[]∧h4=h'∧n4=n') (fun _=>0) () ⟨rfl,rfl,rfl⟩ ?_
 rintro _ t _ _ _ ⟨rfl,rfl,rfl⟩
 refine zG ?_
 refine sC (pA _ g4 (io.ext (n':=n4) X4.go zo) hz hP zo zo) ?_
 rintro _ h5 n5 ⟨B,zs,s,b6,a6,l6,c6,d6,e6,f6,u6,rfl,hB,gBf,oz,tz,hs,i6,j6⟩ y5 x5
 refine zG ?_
 refine sA ?_
 intro h6 p6 x6
 refine zG ?_
 refine sS [.bool b6,.slice a6 l6 c6,.bool d6,.slice e6 f6 u6] ?_
 intro h7 p7 o7
 have hzl:zs.length=cs.length:=hs.len
 have st7:h7 bs=_:=(o7.1 bs zo).trans ((x6 bs zo).trans ((x5 bs hbs).trans st))
 refine zG ?_
 refine wG [.slice (some ⟨B,0,none⟩) cs.length cs.length] (l:=1) (c:=1) R5 ?_
 intro h8 p8 x8
 have k8:∀c,c<3*n5→h8 c=h5 c:=fun c hc=>(x8 c zo).trans ((o7.1 c zo).trans (x6 c hc))
 have T8:Tr n5 h5 (n5+1+1) h8:=zt
 refine sGA (n0:=n) (lo:=n) (ds:=[]) (e:=73) [.slice (some ⟨B,0,none⟩) cs.length cs.length] [(B,zs)] (v:=.slice A.ta 0 0) (by rw [hTa];exact GR.nil) rwP.kp (.cons (c:=[.slice (some ⟨B,0,none⟩) cs.length cs.length]) rfl (by show _=_;rw [hzl]) .nil) ⟨rfl,rfl⟩ (yC p8 R2) (Nat.le_refl _) (by show 0+1<1000000;omega) zo ?_
 intro v9 h9 g9 T9 E9 K9 F9
 obtain ⟨aT,rfl⟩:=g9.shape (L:=1) rfl
 have nT:∀b,¬BkOf (.slice A.ta 0 0) b:=fun b hb=>by
  obtain ⟨o,l,c,e⟩:=hb
  rw [hTa] at e
  cases e
 have s9:=(K9 bs zo (nT _)).trans ((x8 bs zo).trans st7)
 refine zG ?_
 refine sSn (n0:=n) [.int .i64 (ds.length:Int),.slice A.sc ds.length ds.length,.slice A.lo ds.length ds.length,.slice A.hi ds.length ds.length,.slice A.va ds.length ds.length,.slice A.ba 0 0,.slice A.nb ds.length ds.length,.slice aT 1 1,.bool b5,.slice a5 l5 c5] ?_ (hb:=s9)
 intro h10 p10 o10
 have k10:∀c,c<3*n5→c≠bs→h10 c=h5 c:=fun c hc h1=>(o10.1 c h1).trans ((K9 c zo (nT c)).trans (k8 c hc))
 have K10:∀c,c<3*n4→c≠bs→¬BkOf (.slice none 0 0) c→h10 c=h4 c:=fun c hc h1 _=>(k10 c zo h1).trans (x5 c hc)
 have T10:Tr n5 h5 (n5+1+1+1) h10:=Tr.s o10 (T8.trans T9)
 have T40:Tr n4 h4 (n5+1+1+1) h10:=Tr.trans ⟨y5,fun c hc=>.inl (x5 c hc)⟩ T10
 have nn:∀b,¬BkOf (.slice none 0 0) b:=fun b hb=>by
  obtain ⟨o,l,c,e⟩:=hb
  cases e
 have X10:Exo n h h10:=⟨fun c hc=>(K10 c zo zo (nn c)).trans (X4.go c hc)⟩
 refine zG ?_
 refine zq ?_ (hx:=⟨zo,X10.go⟩)
 refine ⟨bs,⟨A.sc,A.lo,A.hi,A.va,A.ba,A.nb,aT⟩,B,zs,s,rfl,zo,?_,hs⟩
 refine ⟨⟨b5,a5,l5,c5,ty,?_,iD.t T40⟩,⟨zo,gb⟩,?_,?_,?_,?_,gB.kb natP.kp T40 gb K10 (fun b _=>nn b),?_,g9.go rwP.kp (Tr.s o10 (Tr.refl _ _)) (fun b hb=>o10.1 b (by have:=F9 b hb;omega)),fun r hr=>?_,?_⟩
 ·show h10 bs=some (.row [_,.slice A.sc (List.replicate ds.length (1:Rat)).length (List.replicate ds.length (1:Rat)).length,.slice A.lo ((ds.take ds.length).map fun d=>(true,zk d.lo)).length ((ds.take ds.length).map fun d=>(true,zk d.lo)).length,.slice A.hi ((ds.take ds.length).map fun d=>(true,zk d.hi)).length ((ds.take ds.length).map fun d=>(true,zk d.hi)).length,.slice A.va ((ds.take ds.length).map fun d=>zk d.lo).length ((ds.take ds.length).map fun d=>zk d.lo).length,.slice A.ba 0 0,.slice A.nb (List.range ds.length).length (List.range ds.length).length,.slice aT 1 1,_,_] ty)
  rw [eS,eL,eH,eM,eR]
  exact p10
 ·show GR _ _ _ _ _ _ (.slice A.sc (List.replicate ds.length (1:Rat)).length (List.replicate ds.length (1:Rat)).length) _
  rw [eS]
  exact gS.kb ratP.kp T40 gb K10 (fun b _=>nn b)
 ·show GR _ _ _ _ _ _ (.slice A.lo ((ds.take ds.length).map fun d=>(true,zk d.lo)).length ((ds.take ds.length).map fun d=>(true,zk d.lo)).length) _
  rw [eL]
  exact gL.kb bndP.kp T40 gb K10 (fun b _=>nn b)
 ·show GR _ _ _ _ _ _ (.slice A.hi ((ds.take ds.length).map fun d=>(true,zk d.hi)).length ((ds.take ds.length).map fun d=>(true,zk d.hi)).length) _
  rw [eH]
  exact gH.kb bndP.kp T40 gb K10 (fun b _=>nn b)
 ·show GR _ _ _ _ _ _ (.slice A.va ((ds.take ds.length).map fun d=>zk d.lo).length ((ds.take ds.length).map fun d=>zk d.lo).length) _
  rw [eM]
  exact gV.kb ratP.kp T40 gb K10 (fun b _=>nn b)
 ·show GR _ _ _ _ _ _ (.slice A.nb (List.range ds.length).length (List.range ds.length).length) _
  rw [eR]
  exact gN.kb natP.kp T40 gb K10 (fun b _=>nn b)
 ·obtain rfl:=List.mem_singleton.1 hr
  exact ⟨oz.go intP.kp T10 (k10 B oz.1 zo),gBf⟩
 show ∀b,BkOf (.slice A.va ((ds.take ds.length).map fun d=>zk d.lo).length ((ds.take ds.length).map fun d=>zk d.lo).length) b→¬BkOf (.slice A.sc (List.replicate ds.length (1:Rat)).length (List.replicate ds.length (1:Rat)).length) b
 rw [eM,eS]
 exact djV
end
section
section
variable {l n bs:Nat}{h:HF}{d:Sol}{A:Adr}
theorem zcs (k:Nat)(s:SM l h n bs d A){v:Nat}{x:Rat}{p:Bool×Rat}(hv:d.va[v]?=some x)(hu:d.hi[v]?=some p){a b:Nat}(sx:Sz a x)(sy:Sz b p.2)(hab:a+b≤2496):CX (cal (k+7)) 62 [.pointer (some ⟨bs,0,none⟩),.int .i64 (v:Int)] h n (BV (p.1=false∨x<p.2)):=by
 obtain ⟨b0,a0,u0,c0,ty,st,i0⟩:=s.st
 have hbs:=s.bs.1
 obtain ⟨k1,o1,b1,a1,l1,c1,d1,e1,f1,g1,eu,mu,ru,tu,iu,ju⟩:=BS.at s.hi.rs hu
 obtain ⟨k2,o2,b2,a2,l2,c2,d2,e2,f2,g2,ev,mv,rv,tv,iv,jv⟩:=QS.at s.va.rs hv
 refine VF.cx (zB (fn:=Tryz.f62) R4 ?_)
 refine zG ?_
 refine zu [0,1,3,7,0,31,63,127,255,511,1023,2047,4095,8191,1023,32767,65535,1023,132095,394239,918527,1023,4064255,8258559,16647167,33554431,67108863,134217727,268435455] rfl ?_
 refine zH ?_
 refine dI eu ru ?_
 refine zH ?_
 refine dL tu mu 0 ?_
 obtain ⟨x0,y0⟩:=p
 cases x0
 ·refine zH ?_
  refine zf ?_
  exact zye (.inl (by trivial))
 refine zH ?_
 refine dI ev rv ?_
 refine dL tv mv 0 ?_
 refine zH ?_
 refine dI eu ru ?_
 refine zH ?_
 refine dL tu mu 1 ?_
 refine dC (qN _ iv jv iu ju sx sy hab).cx ?_
 rintro _ h3 n3 ⟨s3,rfl,q3⟩ y3 x3
 rcases q3 with ⟨rfl,q3⟩|⟨rfl,q3⟩|⟨rfl,q3⟩
 ·refine zH ?_
  refine zf ?_
  exact zye (.inr q3)
 ·refine zH ?_
  refine zf ?_
  exact zno (fun h=>h.elim (fun h=>by cases h) fun h=>Rat.lt_irrefl (q3▸h))
 refine zH ?_
 refine zf ?_
 exact zno (fun h=>h.elim (fun h=>by cases h) fun h=>Rat.not_lt.2 (Rat.le_of_lt q3) h)
theorem em (k:Nat)(s:SM l h n bs d A){v:Nat}{x:Rat}{p:Bool×Rat}(hv:d.va[v]?=some x)(hu:d.lo[v]?=some p){a b:Nat}(sx:Sz a x)(sy:Sz b p.2)(hab:a+b≤2496):CX (cal (k+7)) 63 [.pointer (some ⟨bs,0,none⟩),.int .i64 (v:Int)] h n (BV (p.1=false∨p.2<x)):=by
 obtain ⟨b0,a0,u0,c0,ty,st,i0⟩:=s.st
 have hbs:=s.bs.1
 obtain ⟨k1,o1,b1,a1,l1,c1,d1,e1,f1,g1,eu,mu,ru,tu,iu,ju⟩:=BS.at s.lo.rs hu
 obtain ⟨k2,o2,b2,a2,l2,c2,d2,e2,f2,g2,ev,mv,rv,tv,iv,jv⟩:=QS.at s.va.rs hv
 refine VF.cx (zB (fn:=Tryz.f63) R4 ?_)
 refine zG ?_
 refine zu [0,1,3,7,0,31,63,127,255,511,1023,2047,4095,8191,1023,32767,65535,1023,132095,394239,918527,1023,4064255,8258559,16647167,33554431,67108863,134217727,268435455] rfl ?_
 refine zH ?_
 refine dI eu ru ?_
 refine zH ?_
 refine dL tu mu 0 ?_
 obtain ⟨x0,y0⟩:=p
 cases x0
 ·refine zH ?_
  refine zf ?_
  exact zye (.inl (by trivial))
 refine zH ?_
 refine dI ev rv ?_
 refine dL tv mv 0 ?_
 refine zH ?_
 refine dI eu ru ?_
 refine zH ?_
 refine dL tu mu 1 ?_
 refine dC (qN _ iv jv iu ju sx sy hab).cx ?_
 rintro _ h3 n3 ⟨s3,rfl,q3⟩ y3 x3
 rcases q3 with ⟨rfl,q3⟩|⟨rfl,q3⟩|⟨rfl,q3⟩
 ·refine zH ?_
  refine zf ?_
  exact zno (fun h=>h.elim (fun h=>by cases h) fun h=>Rat.not_lt.2 (Rat.le_of_lt q3) h)
 ·refine zH ?_
  refine zf ?_
  exact zno (fun h=>h.elim (fun h=>by cases h) fun h=>Rat.lt_irrefl (q3▸h))
 refine zH ?_
 refine zf ?_
 exact zye (.inr q3)
def nP (x:Rat)(p q:Bool×Rat)(up:Bool):Bool×Rat:=if up then (q.1,q.2-x) else (p.1,x-p.2)
theorem zix (k:Nat)(g:GG h n)(s:SM l h n bs d A){v:Nat}{x:Rat}{p q:Bool×Rat}(hv:d.va[v]?=some x)(hp:d.lo[v]?=some p)(hq:d.hi[v]?=some q){a b:Nat}(sx:Sz a x)(sp:Sz b p.2)(sq:Sz b q.2)(hab:a+b+1≤2496){r:Int}{up:Bool}(hr:up=true↔0<r):CX (cal (k+11)) 96 [.pointer (some ⟨bs,0,none⟩),.int .i64 (v:Int),.int .i64 r] h n fun w h' n'=>∃b a l c d e f g,w=.tuple #[.agg #[.bool b,.slice a l c,.bool d,.slice e f g],.bool (nP x p q up).1]∧IW h' n' b a l c (nP x p q up).2.num∧IW h' n' d e f g (denZ (nP x p q up).2):=by
 obtain ⟨b0,a0,u0,c0,ty,st,i0⟩:=s.st
 have hbs:=s.bs.1
 obtain ⟨k1,o1,b1,a1,l1,c1,d1,e1,f1,g1,eu,mu,ru,tu,iu,ju⟩:=BS.at s.hi.rs hq
 obtain ⟨k3,o3,b3,a3,l3,c3,d3,e3,f3,g3,ep,mp,rp,tp,ip,jp⟩:=BS.at s.lo.rs hp
 obtain ⟨k2,o2,b2,a2,l2,c2,d2,e2,f2,g2,ev,mv,rv,tv,iv,jv⟩:=QS.at s.va.rs hv
 refine zv (fn:=Tryz.f96) R4 ?_
 refine zG ?_
 refine sA ?_
 intro h4 p4 x4
 refine zG ?_
 by_cases h0:0<r
 ·obtain rfl:up=true:=hr.2 h0
  refine zG ?_
  refine zu [0,1,3,7,0,31,63,127,0,256,768,1792,0,7936,16128,32767,0,65536,196608,458752,0,2031616,4128768,8323072,65535,33554431] rfl ?_
  refine zH ?_
  refine dI eu ru ?_
  refine zH ?_
  refine dL tu mu 1 ?_
  refine zH ?_
  refine dI ev rv ?_
  refine dL tv mv 0 ?_
  refine dC (subQ _ (g.x zx) (iu.x zx) (ju.x zx) (iv.x zx) (jv.x zx) sq sx zo) ?_
  rintro _ h5 n5 ⟨b5,a5,l5,c5,d5,e5,f5,g5,rfl,i5,j5⟩ y5 x5
  refine zH ?_
  refine dI eu ru ?_
  refine zH ?_
  refine dL tu mu 0 ?_
  refine dS [.bool b5,.slice a5 l5 c5,.bool d5,.slice e5 f5 g5] ?_
  intro h6 p6 o6
  refine zq ?_
  exact ⟨_,_,_,_,_,_,_,_,rfl,i5.t zt,j5.t zt⟩
 obtain rfl:up=false:=by cases up;rfl;exact absurd (hr.1 rfl) h0
 refine zG ?_
 refine zu [0,1,3,7,0,31,63,0,128,384,896,0,3968,8064,16256,32767,0,65536,196608,458752,0,2031616,4128768,8323072,65535,33554431] rfl ?_
 refine zH ?_
 refine dI ev rv ?_
 refine dL tv mv 0 ?_
 refine zH ?_
 refine dI ep rp ?_
 refine zH ?_
 refine dL tp mp 1 ?_
 refine dC (subQ _ (g.x zx) (iv.x zx) (jv.x zx) (ip.x zx) (jp.x zx) sx sp zo) ?_
 rintro _ h5 n5 ⟨b5,a5,l5,c5,d5,e5,f5,g5,rfl,i5,j5⟩ y5 x5
 refine zH ?_
 refine dI ep rp ?_
 refine zH ?_
 refine dL tp mp 0 ?_
 refine dS [.bool b5,.slice a5 l5 c5,.bool d5,.slice e5 f5 g5] ?_
 intro h6 p6 o6
 refine zq ?_
 exact ⟨_,_,_,_,_,_,_,_,rfl,i5.t zt,j5.t zt⟩
theorem zi6 (k:Nat)(g:GG h n)(s:SM l h n bs d A){i j:Nat}{r:Nat×List Int}{z:Int}(hi:d.ta[i]?=some r)(hj:r.2[j]?=some z)(hz:z.natAbs<BW)(hd:d.den.natAbs<BW)(h0:d.den≠0):CX (cal (k+11)) 29 [.pointer (some ⟨bs,0,none⟩),.int .i64 (i:Int),.int .i64 (j:Int)] h n (QV (Rat.divInt z d.den)):=by
 obtain ⟨b0,a0,u0,c0,ty,st,i0⟩:=s.st
 have hbs:=s.bs.1
 obtain ⟨k1,o1,e1,m1,r1,t1⟩:=rwS.at s.ta.rs hi
 obtain ⟨zr,_⟩:=s.rw r (List.mem_of_getElem? hi)
 obtain ⟨c2,⟨b2,a2,l2,c2,rfl,i2⟩,_,t2⟩:=zr.get hj (off:=0+j*2) (Nat.zero_add _)
 have m2:=zr.1
 have r2:=(List.getElem?_eq_some_iff.1 hj).1
 refine zv (fn:=Tryz.f29) R4 ?_
 refine zG ?_
 refine sA ?_
 intro h4 p4 x4
 refine zG ?_
 refine zu [0,1,3,7,0,31,63,0,255,511,0,1024,3072,7168,16383,32767] rfl ?_
 refine zH ?_
 refine dI e1 r1 ?_
 refine dL t1 m1 0 ?_
 refine zH ?_
 refine dI rfl r2 ?_
 refine dL t2 m2 0 ?_
 refine zH ?_
 refine dC (mF _ (g.x zx) (i2.x zx) (i0.x zx) hz hd h0) ?_
 rintro _ h5 n5 ⟨b5,a5,l5,c5,d5,e5,f5,g5,rfl,i5,j5⟩ y5 x5
 refine dS [.bool b5,.slice a5 l5 c5,.bool d5,.slice e5 f5 g5] ?_
 intro h6 p6 o6
 refine zq ?_
 exact ⟨_,_,_,_,_,_,_,_,rfl,i5.t zt,j5.t zt⟩
end
end
section
def canG (d:Sol)(v:Nat):Prop:=∃x p,d.va[v]?=some x∧d.hi[v]?=some p∧(p.1=false∨x<p.2)
def canS (d:Sol)(v:Nat):Prop:=∃x p,d.va[v]?=some x∧d.lo[v]?=some p∧(p.1=false∨p.2<x)
def impC (d:Sol)(zs:List Int)(c v:Nat):Prop:=∃z,zs[c]?=some z∧(z<0∧canG d v∨0<z∧canS d v)
theorem oZ {d:Sol}{v:Nat}{x:Rat}{p:Bool×Rat}(hv:d.va[v]?=some x)(hp:d.hi[v]?=some p):canG d v↔(p.1=false∨x<p.2):=
 ⟨fun ⟨x',p',h1,h2,h3⟩=>by rw [hv] at h1;rw [hp] at h2;cases h1;cases h2;exact h3,fun h=>⟨x,p,hv,hp,h⟩⟩
theorem jg {d:Sol}{v:Nat}{x:Rat}{p:Bool×Rat}(hv:d.va[v]?=some x)(hp:d.lo[v]?=some p):canS d v↔(p.1=false∨p.2<x):=
 ⟨fun ⟨x',p',h1,h2,h3⟩=>by rw [hv] at h1;rw [hp] at h2;cases h1;cases h2;exact h3,fun h=>⟨x,p,hv,hp,h⟩⟩
def Best (d:Sol)(zs:List Int)(k:Nat)(f r:Int):Prop:=
 f= -1∧r=0∧(∀c v:Nat,c<k→d.nb[c]?=some v→¬impC d zs c v)∨
 ∃(c v:Nat) (z:Int),f=(c:Int)∧c<k∧d.nb[c]?=some v∧zs[c]?=some z∧impC d zs c v∧r= -(if z<0 then -1 else 1)∧∀c' v':Nat,c'<k→d.nb[c']?=some v'→impC d zs c' v'→v≤v'
section
variable {d:Sol}{zs:List Int}{k:Nat}{f r:Int}
theorem Best.start:Best d zs 0 (-1) 0:=.inl ⟨rfl,rfl,fun c v h=>absurd h (Nat.not_lt_zero _)⟩
theorem Best.no (b:Best d zs k f r){v:Nat}(hv:d.nb[k]?=some v)(h:¬impC d zs k v):Best d zs (k+1) f r:=by
 rcases b with ⟨h1,h2,h3⟩|⟨c,w,z,h1,h2,h3,h4,h5,h6,h7⟩
 ·refine .inl ⟨h1,h2,fun c' v' hc hv'=>?_⟩
  by_cases e:c'=k
  ·subst e;rw [hv] at hv';cases hv';exact h
  exact h3 c' v' zo hv'
 refine .inr ⟨c,w,z,h1,zo,h3,h4,h5,h6,fun c' v' hc hv' hi=>?_⟩
 by_cases e:c'=k
 ·subst e;rw [hv] at hv';cases hv';exact absurd hi h
 exact h7 c' v' zo hv' hi
theorem Best.skip {c w v:Nat}(b:Best d zs k (c:Int) r)(hw:d.nb[c]?=some w)(hv:d.nb[k]?=some v)(h:w≤v):Best d zs (k+1) (c:Int) r:=by
 rcases b with ⟨h1,h2,h3⟩|⟨c2,w2,z,h1,h2,h3,h4,h5,h6,h7⟩
 ·omega
 obtain rfl:c=c2:=zo
 rw [hw] at h3
 cases h3
 refine .inr ⟨c,w,z,h1,zo,hw,h4,h5,h6,fun c' v' hc hv' hi=>?_⟩
 by_cases e:c'=k
 ·subst e;rw [hv] at hv';cases hv';exact h
 exact h7 c' v' zo hv' hi
theorem Best.take (b:Best d zs k f r){v:Nat}{z s:Int}(hv:d.nb[k]?=some v)(hz:zs[k]?=some z)(hi:impC d zs k v)(h:f= -1∨∃c w:Nat,f=(c:Int)∧d.nb[c]?=some w∧v≤w)(hs:s=if z<0 then -1 else 1):Best d zs (k+1) (k:Int) (-s):=by
 refine .inr ⟨k,v,z,rfl,Nat.lt_succ_self _,hv,hz,hi,by rw [hs],fun c' v' hc hv' hi'=>?_⟩
 by_cases e:c'=k
 ·subst e;rw [hv] at hv';cases hv';exact Nat.le_refl _
 rcases b with ⟨h1,h2,h3⟩|⟨c2,w2,z2,h1,h2,h3,h4,h5,h6,h7⟩
 ·exact absurd hi' (h3 c' v' zo hv')
 have:=h7 c' v' zo hv' hi'
 rcases h with h|⟨c3,w3,e3,h8,h9⟩
 ·omega
 obtain rfl:c3=c2:=zo
 rw [h8] at h3
 cases h3
 omega
end
def EntV (d:Sol)(zs:List Int)(w:Value):Prop:=
 (∃(c v:Nat) (z:Int),d.nb[c]?=some v∧zs[c]?=some z∧impC d zs c v∧(∀c' v':Nat,d.nb[c']?=some v'→impC d zs c' v'→v≤v')∧w=.tuple #[.int .i64 ((c:Nat):Int),.int .i64 (-(if z<0 then -1 else 1)),.bool true])∨
 ((∀c v:Nat,d.nb[c]?=some v→¬impC d zs c v)∧w=.tuple #[.int .i64 0,.int .i64 0,.bool false])
section
variable {l n bs:Nat}{h:HF}{d:Sol}{A:Adr}
theorem bM (k:Nat)(s:SM l h n bs d A){a:Nat}(z:SZ d a)(ha:a+a≤2496){r:Nat×List Int}(hr:d.ta[d.ta.length-1]?=some r)(hl:r.2.length=d.nb.length):CX (cal (k+8)) 66 [.pointer (some ⟨bs,0,none⟩)] h n fun w _ _=>EntV d r.2 w:=by
 obtain ⟨b0,a0,u0,c0,ty,st,i0⟩:=s.st
 have hbs:=s.bs.1
 have hln:=z.ln
 obtain ⟨k1,o1,e1,m1,r1,t1⟩:=rwS.at s.ta.rs hr
 have hT:1≤d.ta.length:=zo
 have hlt:=z.lt
 refine VF.cx (zB (fn:=Tryz.f66) R4 ?_)
 refine zG ?_
 refine zu [0,1,3,7,0,16,48,112,240,496,1023,2047,4095] rfl ?_
 refine zH ?_
 refine dI (j:=d.ta.length-1) e1 r1 ?_ (hj:=by exact congrArg (Value.int .i64) (show ((d.ta.length:Nat):Int)-1=((d.ta.length-1:Nat):Int) by omega))
 refine dL t1 m1 0 ?_
 refine zH ?_
 refine zG ?_
 refine sF (α:=Nat×Int×Int) (fun z=>[(0,.pointer (some ⟨bs,0,none⟩)),(5,.slice (some ⟨r.1,0,none⟩) r.2.length r.2.length),(6,.int .i64 z.2.1),(7,.int .i64 z.2.2),(26,.slice A.nb d.nb.length d.nb.length),(27,.int .i64 (d.nb.length:Int)),(28,.int .i64 (z.1:Int))]) (fun z h' n' w'=>w'=[]∧n≤n'∧Ext n h h'∧z.1≤d.nb.length∧Best d r.2 z.1 z.2.1 z.2.2) (fun z=>d.nb.length-z.1) (0,-1,0) ⟨rfl,Nat.le_refl _,Ext.refl _ _,Nat.zero_le _,Best.start⟩ ?_
 rintro ⟨j,f,q⟩ t h2 n2 _ ⟨rfl,y2,x2,hj,hb⟩
 have y2:n≤n2:=y2
 have x2:Ext n h h2:=x2
 have hj:j≤d.nb.length:=hj
 have hb:Best d r.2 j f q:=hb
 have s2:=s.ext x2 y2
 obtain ⟨b2,a2,u2,c2,ty2,st2,i2⟩:=s2.st
 refine zG ?_
 by_cases q3:(j:Int)<(d.nb.length:Int)
 ·refine zG ?_
  obtain ⟨v,gv⟩:∃v,d.nb[j]?=some v:=⟨_,List.getElem?_eq_getElem zo⟩
  obtain ⟨zc,gz⟩:∃zc,r.2[j]?=some zc:=⟨_,List.getElem?_eq_getElem zo⟩
  have hvN:=z.nb v (List.mem_of_getElem? gv)
  obtain ⟨x,gx⟩:∃x,d.va[v]?=some x:=⟨_,List.getElem?_eq_getElem hvN⟩
  obtain ⟨pl,gl⟩:∃x,d.lo[v]?=some x:=⟨_,List.getElem?_eq_getElem (by rw [z.ll];exact hvN)⟩
  obtain ⟨ph,gh⟩:∃x,d.hi[v]?=some x:=⟨_,List.getElem?_eq_getElem (by rw [z.lh];exact hvN)⟩
  obtain ⟨k4,o4,e4,m4,r4,t4⟩:=natS.at s2.nb.rs gv
  refine sI e4 r4 ?_
  refine sL t4 m4 0 ?_
  have go:(∃c w:Nat,f=(c:Int)∧d.nb[c]?=some w∧w<v)∨f= -1∨(∃c w:Nat,f=(c:Int)∧d.nb[c]?=some w∧v≤w):=by
   rcases hb with ⟨h1,_⟩|⟨c,w,z,h1,h2,h3,_⟩
   ·exact .inr (.inl h1)
   by_cases hw:w<v
   ·exact .inl ⟨c,w,h1,h3,hw⟩
   exact .inr (.inr ⟨c,w,h1,h3,zo⟩)
  rcases go with ⟨c,w,rfl,gw,hw⟩|go
  ·refine zG ?_
   obtain ⟨k5,o5,e5,m5,r5,t5⟩:=natS.at s2.nb.rs gw
   refine sI e5 r5 ?_
   refine sL t5 m5 0 ?_
   refine zG ?_
   exact sK (j+1,(c:Int),q) ⟨rfl,y2,x2,(by show j+1≤_;omega),hb.skip gw gv zo⟩
  have go2:=go
  rcases go with rfl|⟨c,w,rfl,gw,hw⟩<;>refine zG ?_
  rotate_left
  obtain ⟨k5,o5,e5,m5,r5,t5⟩:=natS.at s2.nb.rs gw
  refine sI e5 r5 ?_
  refine sL t5 m5 0 ?_
  refine zG ?_
  all_goals
   obtain ⟨zr,_⟩:=s2.rw r (List.mem_of_getElem? hr)
   obtain ⟨c6,⟨b6,a6,l6,c6,rfl,i6⟩,_,t6⟩:=zr.get gz (off:=0+j*2) (Nat.zero_add _)
   refine sI rfl (show j<r.2.length by omega) ?_
   refine sL t6 zr.1 0 ?_
   refine sC (za8 _ i6) ?_
   rintro _ h7 n7 ⟨s7,rfl,q7⟩ y7 x7
   rcases q7 with ⟨rfl,q7⟩|⟨rfl,q7⟩|⟨rfl,q7⟩
   ·refine zG ?_
    refine sC (zcs _ (s2.x zx) gx gh (z.va _ (List.mem_of_getElem? gx)) (z.hi _ (List.mem_of_getElem? gh)) ha) ?_
    rintro _ h8 n8 ⟨b8,rfl,bq8⟩ y8 x8
    rcases bvs bq8 with ⟨rfl,q8⟩|⟨rfl,q8⟩
    ·refine zG ?_
     exact sK (j+1,_,q) ⟨rfl,zo,(show Tx n h n8 h8 from zx).2,(by show j+1≤_;omega),hb.no gv (fun ⟨z',g',hh⟩=>by
      rw [gz] at g'
      cases g'
      rcases hh with ⟨_,hh⟩|⟨hh,_⟩
      ·exact q8 ((oZ gx gh).1 hh)
      ·omega)⟩
    refine zG ?_
    exact sK (j+1,(j:Int),_) ⟨rfl,zo,(show Tx n h n8 h8 from zx).2,(by show j+1≤_;omega),hb.take gv gz ⟨zc,gz,.inl ⟨q7,(oZ gx gh).2 q8⟩⟩ go2 (by rw [if_pos q7])⟩
   ·refine zG ?_
    exact sK (j+1,_,q) ⟨rfl,zo,(show Tx n h n7 h7 from zx).2,(by show j+1≤_;omega),hb.no gv (fun ⟨z',g',hh⟩=>by
      rw [gz] at g'
      cases g'
      rcases hh with ⟨hh,_⟩|⟨hh,_⟩<;>omega)⟩
   refine zG ?_
   refine sC (em _ (s2.x zx) gx gl (z.va _ (List.mem_of_getElem? gx)) (z.lo _ (List.mem_of_getElem? gl)) ha) ?_
   rintro _ h8 n8 ⟨b8,rfl,bq8⟩ y8 x8
   rcases bvs bq8 with ⟨rfl,q8⟩|⟨rfl,q8⟩
   ·refine zG ?_
    exact sK (j+1,_,q) ⟨rfl,zo,(show Tx n h n8 h8 from zx).2,(by show j+1≤_;omega),hb.no gv (fun ⟨z',g',hh⟩=>by
     rw [gz] at g'
     cases g'
     rcases hh with ⟨hh,_⟩|⟨_,hh⟩
     ·omega
     ·exact q8 ((jg gx gl).1 hh))⟩
   refine zG ?_
   exact sK (j+1,(j:Int),_) ⟨rfl,zo,(show Tx n h n8 h8 from zx).2,(by show j+1≤_;omega),hb.take gv gz ⟨zc,gz,.inr ⟨q7,(jg gx gl).2 q8⟩⟩ go2 (by rw [if_neg zo])⟩
 have hjn:j=d.nb.length:=zo
 subst hjn
 rcases hb with ⟨rfl,rfl,h3⟩|⟨c,w,zc,rfl,h2,h3,h4,h5,rfl,h7⟩
 ·refine zG ?_
  refine st_I (ik:=.i64) (a:=0) R5 ?_
  refine zG ?_
  refine zf ?_
  exact .inr ⟨fun c v hv=>h3 c v (List.getElem?_eq_some_iff.1 hv).1 hv,rfl⟩
 refine zG ?_
 refine st_I (ik:=.i64) (a:=(c:Int)) ⟨rfl,rfl,rfl,rfl,(by show some (Value.int .i64 (if ((c:Nat):Int)<0 then 0 else (c:Int)))=_;rw [if_neg zo])⟩ ?_
 refine zG ?_
 refine zf ?_
 exact .inl ⟨c,w,zc,h3,h4,h5,fun c' v' hv hi=>h7 c' v' (List.getElem?_eq_some_iff.1 hv).1 hv hi,rfl⟩
end
end
section
section
variable {l n bs:Nat}{h:HF}{d:Sol}{A:Adr}
theorem SM.box (s:SM l h n bs d A)(hba:d.ba=[]):∃b a u c ty,h bs=some (.row [.int .i64 (d.n:Int),.slice A.sc d.sc.length d.sc.length,.slice A.lo d.lo.length d.lo.length,.slice A.hi d.hi.length d.hi.length,.slice A.va d.va.length d.va.length,.slice A.ba 0 0,.slice A.nb d.nb.length d.nb.length,.slice A.ta d.ta.length d.ta.length,.bool b,.slice a u c] ty)∧IW h n b a u c d.den:=by
 have:=s.st
 rw [hba] at this
 exact this
theorem zbf {α:Type}{l:List α}{v:Nat}{x:α}(h:l[v]?=some x):l.set v x=l:=by
 refine List.ext_getElem? fun i=>?_
 rw [List.getElem?_set]
 split
 ·rename_i e
  subst e
  rw [if_pos (List.getElem?_eq_some_iff.1 h).1,h]
 rfl
theorem zi3 (k:Nat)(g:GG h n)(s:SM l h n bs d A)(hba:d.ba=[]){c v:Nat}{x r:Rat}(hc:d.nb[c]?=some v)(hv:d.va[v]?=some x){b1 d1:Bool}{a1 e1:Option Addr}{l1 c1 f1 u1:Nat}(i1:IW h n b1 a1 l1 c1 r.num)(j1:IW h n d1 e1 f1 u1 (denZ r)){a b:Nat}(sx:Sz a x)(sr:Sz b r)(hab:a+b+1≤2496):
  CF (cal (k+10)) 64 [.pointer (some ⟨bs,0,none⟩),.int .i64 (c:Int),.agg #[.bool b1,.slice a1 l1 c1,.bool d1,.slice e1 f1 u1]] h n fun _ h' n' w=>n≤n'∧SM l h' n' bs {d with va:=d.va.set v (x+r)} A∧Tr n h n' h'∧(∀b,b<3*n→¬BkOf (.slice A.va d.va.length d.va.length) b→h' b=h b)∧(∀c∈w,3*l≤c)∧(r=0∨∀b,BkOf (.slice A.va d.va.length d.va.length) b→b∈w):=by
 obtain ⟨b0,a0,u0,c0,ty,st,i0⟩:=s.box hba
 have hbs:=s.bs.1
 obtain ⟨k4,o4,e4,m4,r4,t4⟩:=natS.at s.nb.rs hc
 obtain ⟨k2,o2,b2,a2,l2,c2,d2,e2,f2,g2,ev,mv,rv,tv,iv,jv⟩:=QS.at s.va.rs hv
 have hvl:=(List.getElem?_eq_some_iff.1 hv).1
 refine pi (fn:=Tryz.f64) R4 ?_
 refine zG ?_
 refine sB [.bool b1,.slice a1 l1 c1,.bool d1,.slice e1 f1 u1] ?_
 intro h1 p1 x1
 refine zG ?_
 refine sC (kG _ (i1.x zx) (j1.x zx)) ?_
 rintro _ h3 n3 ⟨b3,rfl,bq3⟩ y3 x3
 rcases bvs bq3 with ⟨rfl,q3⟩|⟨rfl,q3⟩
 ·obtain ⟨bv,evv,gv,lv,ov,tyv⟩:=s.va.or rfl (show d.va.length≠0 by omega)
  injection evv with evv
  refine zG ?_
  refine sI e4 r4 ?_
  refine sL t4 m4 0 ?_
  refine zG ?_
  refine zu [0,1,3,7,0,0,32,96,224,0,992,2016,0,8160,16383,32767] rfl ?_
  refine zH ?_
  refine dI ev rv ?_
  refine dL tv mv 0 ?_
  refine zH ?_
  refine dC (addQ _ (g.x zx) (iv.x zx) (jv.x zx) (i1.x zx) (j1.x zx) sx sr hab) ?_
  rintro _ h5 n5 ⟨b5,a5,l5,c5,d5,e5,f5,u5,rfl,i5,j5⟩ y5 x5
  have X5:Exo n h h5:=⟨(show Tx n h n5 h5 from zx).2⟩
  refine dI (j:=v) evv hvl ?_
  refine dZ (n0:=n) (j:=v) [.bool b5,.slice a5 l5 c5,.bool d5,.slice e5 f5 u5] (ov.ext ratP.kp X5.go zo) ratP.kp hvl (Nat.zero_add _) ⟨_,_,_,_,_,_,_,_,rfl,i5,j5⟩ ?_
  intro h6 o6 S6 T6
  have s6:=(s.ext (n':=n5) X5.go zo).mv evv S6 (List.length_set ..) (o6.gr ratP.kp (T6 _ (by
   obtain ⟨C,hC⟩:=tyv
   exact ⟨C,(X5.go _ ov.1).trans hC⟩)) gv lv rfl |> fun q=>by rw [evv];exact q)
  have hbv:=ov.1
  have hin:bv∈addW n [bv] []:=jA hbv (by simp)
  refine zG ?_
  have st6:h6 bs=_:=(S6.1 bs (fun e=>by have:=s.bs.2;rw [e,gv] at this;cases this)).trans ((X5.go bs hbs).trans st)
  refine zG ?_
  refine sF (α:=Unit) (fun _=>[(36,.slice A.ba 0 0),(37,.int .i64 0),(38,.int .i64 0)]) (fun _ h' n' w'=>addW n [bv] []=w'∧h6=h'∧n5=n') (fun _=>0) () ⟨rfl,rfl,rfl⟩ ?_
  rintro _ t _ _ _ ⟨rfl,rfl,rfl⟩
  refine zG ?_
  refine ⟨rfl,[],rfl,⟨zo,s6,Tr.s S6 ⟨zo,fun c hc=>.inl (X5.go c hc)⟩,fun b hb hn=>(S6.1 b (fun e=>hn ⟨0,d.va.length,d.va.length,by rw [evv,e]⟩)).trans (X5.go b hb),vM (fun c hc=>by rw [List.mem_singleton.1 hc];exact lv) (fun c hc=>absurd hc List.not_mem_nil),.inr fun b hb=>by
   obtain ⟨o,l',c',e⟩:=hb
   rw [evv] at e
   injection e with e
   injection e with e
   injection e with e
   exact e▸hin⟩,fun hw=>by rw [hw] at hin;cases hin⟩
 have e1:({d with va:=d.va.set v (x+r)}:Sol)=d:=by rw [q3,Rat.add_zero,zbf hv]
 have X3:Exo n h h3:=⟨(show Tx n h n3 h3 from zx).2⟩
 have y3:n+1≤n3:=y3
 rw [e1]
 refine zG ?_
 exact ⟨rfl,[],rfl,⟨zo,s.ext X3.go zo,⟨zo,fun c hc=>.inl (X3.go c hc)⟩,fun b hb _=>X3.go b hb,fun c hc=>absurd hc List.not_mem_nil,.inl q3⟩,fun _=>⟨Nat.le_refl _,s,Tr.refl _ _,(by intros;trivial),fun c hc=>absurd hc List.not_mem_nil,.inl q3⟩⟩
theorem zbz (k:Nat)(g:GG h n)(s:SM l h n bs d A)(hba:d.ba=[]){c v:Nat}{x:Rat}{p q:Bool×Rat}(hc:d.nb[c]?=some v)(hv:d.va[v]?=some x)(hp:d.lo[v]?=some p)(hq:d.hi[v]?=some q){a b:Nat}(sx:Sz a x)(sp:Sz b p.2)(sq:Sz b q.2)(hab:a+b+1≤2496){r:Int}{up:Bool}(hr:up=true↔0<r):CX (cal (k+12)) 67 [.pointer (some ⟨bs,0,none⟩),.int .i64 (c:Int),.int .i64 r] h n fun w h' n'=>∃b a l c d e f g,w=.tuple #[.int .i64 (-1),.agg #[.bool b,.slice a l c,.bool d,.slice e f g],.bool (nP x p q up).1]∧IW h' n' b a l c (nP x p q up).2.num∧IW h' n' d e f g (denZ (nP x p q up).2):=by
 obtain ⟨b0,a0,u0,c0,ty,st,i0⟩:=s.box hba
 have hbs:=s.bs.1
 obtain ⟨k4,o4,e4,m4,r4,t4⟩:=natS.at s.nb.rs hc
 refine zv (fn:=Tryz.f67) R4 ?_
 refine zG ?_
 refine sA ?_
 intro h1 p1 x1
 refine zG ?_
 refine sI e4 r4 ?_
 refine sL t4 m4 0 ?_
 refine zG ?_
 refine sC (zix _ (g.x zx) (s.x zx) hv hp hq sx sp sq hab hr) ?_
 rintro _ h2 n2 ⟨b2,a2,l2,c2,d2,e2,f2,g2,rfl,i2,j2⟩ y2 x2
 refine zG ?_
 refine sA ?_
 intro h3 p3 x3
 refine sS [.bool b2,.slice a2 l2 c2,.bool d2,.slice e2 f2 g2] ?_
 intro h4 p4 o4
 refine zG ?_
 refine sF (α:=Unit) (fun _=>[(7,.pointer (some ⟨3*n+2,0,none⟩)),(10,.pointer (some ⟨3*n2+2,0,none⟩)),(11,.bool (nP x p q up).1),(12,.int .i64 (-1)),(36,.slice A.ba 0 0),(37,.int .i64 0),(38,.int .i64 0)]) (fun _ h' n' w'=>w'=[]∧h4=h'∧n2+1=n') (fun _=>0) () ⟨rfl,rfl,rfl⟩ ?_
 rintro _ t _ _ _ ⟨rfl,rfl,rfl⟩
 refine zG ?_
 refine zu [0,0,0,1,11,31] rfl ?_
 refine zH ?_
 refine dS [.bool b2,.slice a2 l2 c2,.bool d2,.slice e2 f2 g2] ?_
 intro h5 p5 o5
 refine zq ?_
 exact ⟨_,_,_,_,_,_,_,_,rfl,i2.t zt,j2.t zt⟩
theorem dh (k:Nat)(s:SM l h n bs d A)(hba:d.ba=[]):CX (cal (k+1)) 59 [.pointer (some ⟨bs,0,none⟩)] h n fun w _ _=>w=.tuple #[.int .i64 0,.agg #[.bool false,.slice none 0 0,.bool false,.slice none 0 0],.bool false]:=by
 obtain ⟨b0,a0,u0,c0,ty,st,i0⟩:=s.box hba
 have hbs:=s.bs.1
 refine zv (fn:=Tryz.f59) R4 ?_
 refine zG ?_
 refine sA ?_
 intro h1 p1 x1
 refine zG ?_
 refine sA ?_
 intro h2 p2 x2
 refine zG ?_
 refine sF (α:=Unit) (fun _=>[(3,.pointer (some ⟨3*n+2,0,none⟩)),(5,.int .i64 (-1)),(6,.pointer (some ⟨3*(n+1)+2,0,none⟩)),(13,.slice A.ba 0 0),(14,.int .i64 0),(15,.int .i64 0)]) (fun _ h' n' w'=>w'=[]∧h2=h'∧n+1+1=n') (fun _=>0) () ⟨rfl,rfl,rfl⟩ ?_
 rintro _ t _ _ _ ⟨rfl,rfl,rfl⟩
 refine zG ?_
 refine zu [0,1,0,0,8,3,39,127] rfl ?_
 refine zH ?_
 refine dr_I (ik:=.i64) (a:=0) R5 ?_
 refine zH ?_
 refine dS [.bool false,.slice none 0 0,.bool false,.slice none 0 0] ?_
 intro h3 p3 o3
 refine zq ?_
 exact rfl
theorem ze9 (k:Nat)(s:SM l h n bs d A)(hba:d.ba=[]):CX (cal (k+2)) 23 [.pointer (some ⟨bs,0,none⟩)] h n fun w _ _=>w=.tuple #[.int .i64 0,.int .i64 0,.bool true]:=by
 refine VF.cx (zB (fn:=Tryz.f23) R4 ?_)
 refine zG ?_
 refine sF (α:=Unit) (fun _=>[(0,.pointer (some ⟨bs,0,none⟩))]) (fun _ h' n' w'=>w'=[]∧h=h'∧n=n') (fun _=>0) () ⟨rfl,rfl,rfl⟩ ?_
 rintro _ t _ _ _ ⟨rfl,rfl,rfl⟩
 refine zG ?_
 refine sC (dh _ s hba) ?_
 rintro _ h1 n1 rfl y1 x1
 refine zG ?_
 refine sA ?_
 intro h2 p2 x2
 refine zG ?_
 refine sS [.bool false,.slice none 0 0,.bool false,.slice none 0 0] ?_
 intro h3 p3 o3
 refine zf ?_
 exact rfl
end
end
section
noncomputable def loA (ds:List SideD)(j:Nat):Rat:=((ds[j]?).map fun d=>zk d.lo).getD 0
noncomputable def hiA (ds:List SideD)(j:Nat):Rat:=((ds[j]?).map fun d=>zk d.hi).getD 0
noncomputable def vaM (ds:List SideD)(zs:List Int)(m:Nat):List Rat:=(List.range ds.length).map fun j=>if j<m∧(zs[j]?).getD 0<0 then hiA ds j else loA ds j
noncomputable def bxS (ds:List SideD)(B:Nat)(zs:List Int)(m:Nat):Sol:={dN ds ds.length with va:=vaM ds zs m,ta:=[(B,zs)]}
theorem Sz.sub {a b:Nat}{x y:Rat}(hx:Sz a x)(hy:Sz b y):Sz (a+b+1) (x-y):=by rw [Rat.sub_eq_add_neg];exact hx.add hy.neg
section
variable {ds:List SideD}{zs:List Int}{B m c j:Nat}
theorem iF {d:SideD}(h:ds[j]?=some d):loA ds j=zk d.lo:=by unfold loA;rw [h];rfl
theorem bl {d:SideD}(h:ds[j]?=some d):hiA ds j=zk d.hi:=by unfold hiA;rw [h];rfl
theorem yN:(vaM ds zs m).length=ds.length:=by unfold vaM;rw [List.length_map,List.length_range]
theorem vW (h:j<ds.length):(vaM ds zs m)[j]?=some (if j<m∧(zs[j]?).getD 0<0 then hiA ds j else loA ds j):=by
 unfold vaM
 rw [List.getElem?_map,List.getElem?_range h]
 rfl
theorem dl:(ds.take ds.length).map (fun d=>zk d.lo)=vaM ds zs 0:=by
 refine List.ext_getElem? fun i=>?_
 rw [List.take_length,List.getElem?_map]
 by_cases h:i<ds.length
 ·rw [vW h,if_neg zo,List.getElem?_eq_getElem h]
  show some _=some _
  rw [iF (List.getElem?_eq_getElem h)]
 rw [List.getElem?_eq_none zo,List.getElem?_eq_none (by rw [yN];omega)]
 rfl
theorem zdi (hm:m≤c)(h:∀j,m≤j→j<c→j<ds.length→(zs[j]?).getD 0<0→hiA ds j=loA ds j):vaM ds zs m=vaM ds zs c:=by
 refine List.ext_getElem? fun i=>?_
 by_cases hi:i<ds.length
 ·rw [vW hi,vW hi]
  by_cases hz:(zs[i]?).getD 0<0
  ·by_cases h1:i<m
   ·rw [if_pos ⟨h1,hz⟩,if_pos ⟨zo,hz⟩]
   rw [if_neg (fun e=>h1 e.1)]
   by_cases h2:i<c
   ·rw [if_pos ⟨h2,hz⟩,h i zo h2 hi hz]
   rw [if_neg (fun e=>h2 e.1)]
  rw [if_neg (fun e=>hz e.2),if_neg (fun e=>hz e.2)]
 rw [List.getElem?_eq_none (by rw [yN];omega),List.getElem?_eq_none (by rw [yN];omega)]
theorem zer (hz:(zs[c]?).getD 0<0):(vaM ds zs c).set c (hiA ds c)=vaM ds zs (c+1):=by
 refine List.ext_getElem? fun i=>?_
 rw [List.getElem?_set,yN]
 by_cases h1:c=i
 ·subst h1
  rw [if_pos rfl]
  by_cases h2:c<ds.length
  ·rw [if_pos h2,vW h2,if_pos ⟨Nat.lt_succ_self _,hz⟩]
  rw [if_neg h2,List.getElem?_eq_none (by rw [yN];omega)]
 rw [if_neg h1]
 by_cases hi:i<ds.length
 ·rw [vW hi,vW hi]
  by_cases hz2:(zs[i]?).getD 0<0
  ·by_cases h3:i<c
   ·rw [if_pos ⟨h3,hz2⟩,if_pos ⟨zo,hz2⟩]
   rw [if_neg (fun e=>h3 e.1),if_neg (fun e=>by omega)]
  rw [if_neg (fun e=>hz2 e.2),if_neg (fun e=>hz2 e.2)]
 rw [List.getElem?_eq_none (by rw [yN];omega),List.getElem?_eq_none (by rw [yN];omega)]
structure BoxD (ds:List SideD)(a:Nat):Prop where
 d:∀d∈ds,d.lo≠[]∧d.hi≠[]∧Sz a (zk d.lo)∧Sz a (zk d.hi)
 le:∀d∈ds,zk d.lo≤zk d.hi
 l:ds.length≤900
section
variable {a:Nat}
theorem BoxD.at (b:BoxD ds a)(h:j<ds.length):Sz a (loA ds j)∧Sz a (hiA ds j)∧loA ds j≤hiA ds j:=by
 have e:=List.getElem?_eq_getElem h
 rw [iF e,bl e]
 exact ⟨(b.d _ (List.getElem_mem h)).2.2.1,(b.d _ (List.getElem_mem h)).2.2.2,b.le _ (List.getElem_mem h)⟩
theorem zek (h:j<ds.length):(bxS ds B zs m).lo[j]?=some (true,loA ds j):=by
 show ((ds.take ds.length).map fun d=>(true,zk d.lo))[j]?=_
 rw [List.take_length,List.getElem?_map,List.getElem?_eq_getElem h,iF (List.getElem?_eq_getElem h)]
 rfl
theorem aW (h:j<ds.length):(bxS ds B zs m).hi[j]?=some (true,hiA ds j):=by
 show ((ds.take ds.length).map fun d=>(true,zk d.hi))[j]?=_
 rw [List.take_length,List.getElem?_map,List.getElem?_eq_getElem h,bl (List.getElem?_eq_getElem h)]
 rfl
theorem pO {v:Nat}:(bxS ds B zs m).nb[j]?=some v↔j<ds.length∧v=j:=by
 show (List.range ds.length)[j]?=some v↔_
 by_cases h:j<ds.length
 ·rw [List.getElem?_range h]
  exact ⟨fun e=>⟨h,(Option.some.inj e).symm⟩,fun e=>by rw [e.2]⟩
 rw [List.getElem?_eq_none (by rw [List.length_range];omega)]
 exact ⟨fun e=>(by cases e),fun e=>absurd e.1 h⟩
theorem zej (b:BoxD ds a):SZ (bxS ds B zs m) a:=by
 refine ⟨fun q hq=>?_,fun q hq=>?_,fun q hq=>?_,?_,?_,?_,fun v hv=>?_,?_,by show 1<1000;omega⟩
 ·obtain ⟨i,hi,rfl⟩:=List.mem_map.1 hq
  have:=b.at (List.mem_range.1 hi)
  split
  ·exact this.2.1
  exact this.1
 ·obtain ⟨d,hd,rfl⟩:=List.mem_map.1 hq
  exact (b.d d (List.mem_of_mem_take hd)).2.2.1
 ·obtain ⟨d,hd,rfl⟩:=List.mem_map.1 hq
  exact (b.d d (List.mem_of_mem_take hd)).2.2.2
 ·show ((ds.take ds.length).map _).length=(vaM ds zs m).length
  rw [List.length_map,List.take_length,yN]
 ·show ((ds.take ds.length).map _).length=(vaM ds zs m).length
  rw [List.length_map,List.take_length,yN]
 ·show (List.replicate ds.length (1:Rat)).length=(vaM ds zs m).length
  rw [List.length_replicate,yN]
 ·show v<(vaM ds zs m).length
  rw [yN]
  exact List.mem_range.1 hv
 show (List.range ds.length).length<1000
 have:=b.l
 rw [List.length_range]
 omega
theorem EntB (b:BoxD ds a)(hl:zs.length=ds.length)(hm:m≤ds.length){w:Value}(h:EntV (bxS ds B zs m) zs w):(∃c,m≤c∧c<ds.length∧(zs[c]?).getD 0<0∧loA ds c<hiA ds c∧vaM ds zs m=vaM ds zs c∧w=.tuple #[.int .i64 ((c:Nat):Int),.int .i64 1,.bool true])∨(vaM ds zs m=vaM ds zs ds.length∧w=.tuple #[.int .i64 0,.int .i64 0,.bool false]):=by
 have key:∀j,j<ds.length→m≤j→(zs[j]?).getD 0<0→¬impC (bxS ds B zs m) zs j j→hiA ds j=loA ds j:=fun j hj hmj hz hi=>by
  refine Classical.byContradiction fun hne=>hi ?_
  obtain ⟨z,gz⟩:∃z,zs[j]?=some z:=⟨_,List.getElem?_eq_getElem zo⟩
  rw [gz] at hz
  refine ⟨z,gz,.inl ⟨hz,(oZ (vW (ds:=ds) (zs:=zs) (m:=m) hj) (aW hj)).2 (.inr ?_)⟩⟩
  rw [if_neg (fun e=>by omega)]
  exact Rat.not_le.1 fun h=>hne (Rat.le_antisymm h (b.at hj).2.2)
 rcases h with ⟨c,v,z,h1,h2,h3,h4,rfl⟩|⟨h1,rfl⟩
 ·obtain ⟨hc,rfl⟩:=pO.1 h1
  obtain ⟨z',g',h3⟩:=h3
  rw [h2] at g'
  cases g'
  have hzc:(zs[v]?).getD 0=z:=by rw [h2];rfl
  rcases h3 with ⟨hz,hg⟩|⟨hz,hg⟩
  ·have hg:=(oZ (vW (ds:=ds) (zs:=zs) (m:=m) hc) (aW hc)).1 hg
   rw [hzc] at hg
   have hmc:m≤v:=by
    refine Nat.le_of_not_lt fun hlt=>?_
    rw [if_pos ⟨hlt,hz⟩] at hg
    rcases hg with hg|hg
    ·cases hg
    exact Rat.lt_irrefl hg
   rw [if_neg (fun e=>by omega)] at hg
   refine .inl ⟨v,hmc,hc,by rw [hzc];exact hz,?_,zdi hmc fun j hj1 hj2 hj3 hz2=>key j hj3 hj1 hz2 fun hi=>?_,by rw [if_pos hz];rfl⟩
   ·rcases hg with hg|hg
    ·cases hg
    exact hg
   have:=h4 j j (pO.2 ⟨hj3,rfl⟩) hi
   omega
  have hg:=(jg (vW (ds:=ds) (zs:=zs) (m:=m) hc) (zek hc)).1 hg
  rw [if_neg (fun e=>by rw [hzc] at e;omega)] at hg
  rcases hg with hg|hg
  ·cases hg
  exact absurd hg Rat.lt_irrefl
 exact .inr ⟨zdi hm fun j hj1 hj2 hj3 hz=>key j hj3 hj1 hz (h1 j j (pO.2 ⟨hj3,rfl⟩)),rfl⟩
theorem zcu (hz:(zs[c]?).getD 0<0)(hc:vaM ds zs m=vaM ds zs c):({bxS ds B zs m with va:=(bxS ds B zs m).va.set c (hiA ds c)}:Sol)=bxS ds B zs (c+1):=by
 show ({dN ds ds.length with va:=(vaM ds zs m).set c (hiA ds c),ta:=[(B,zs)]}:Sol)=_
 rw [hc,zer hz]
 rfl
theorem cm (k:Nat){l n bs:Nat}{h:HF}{A:Adr}(g:GG h n)(s:SM l h n bs (bxS ds B zs 0) A)(b:BoxD ds a)(hl:zs.length=ds.length)(h0:ds.length≠0)(ha:4*a≤2400):
  CF (cal (k+13)) 25 [.pointer (some ⟨bs,0,none⟩)] h n fun w h' n' W=>w=.tuple #[.int .i64 0,.int .i64 0,.bool true]∧n≤n'∧SM l h' n' bs (bxS ds B zs ds.length) A∧Tr n h n' h'∧(∀b,b<3*n→¬BkOf (.slice A.va ds.length ds.length) b→h' b=h b)∧(∀c∈W,3*l≤c):=by
 have lva:∀m,(bxS ds B zs m).va.length=ds.length:=fun m=>yN
 obtain ⟨bv,evv,gv,lv,ov,tyv⟩:=s.va.or rfl (by rw [lva];exact h0)
 have hbv:=ov.1
 injection evv with evv
 refine pi (fn:=Tryz.f25) R4 ?_
 refine zG ?_
 refine sF (α:=Nat) (fun _=>[(0,.pointer (some ⟨bs,0,none⟩))]) (fun m h' n' w'=>n≤n'∧SM l h' n' bs (bxS ds B zs m) A∧Tr n h n' h'∧(∀b,b<3*n→¬BkOf (.slice A.va ds.length ds.length) b→h' b=h b)∧(∀c∈w',3*l≤c)∧(m=0∨bv∈w')∧m≤ds.length) (fun m=>ds.length-m) 0 ⟨Nat.le_refl _,s,Tr.refl _ _,fun _ _ _=>rfl,fun c hc=>absurd hc List.not_mem_nil,.inl rfl,Nat.zero_le _⟩ ?_ (hm:=by have:=b.l;show _<LL;unfold LL;(try dsimp only);omega)
 rintro m t h1 n1 w1 ⟨y1,s1,T1,K1,hw1,hin1,hm1⟩
 have y1:n≤n1:=y1
 have s1:SM l h1 n1 bs (bxS ds B zs m) A:=s1
 have T1:Tr n h n1 h1:=T1
 have K1:∀b,b<3*n→¬BkOf (.slice A.va ds.length ds.length) b→h1 b=h b:=K1
 have hm1:m≤ds.length:=hm1
 refine zG ?_
 refine sC ((bM _ s1 (zej b) zo (r:=(B,zs)) rfl (by show zs.length=(List.range ds.length).length;rw [hl,List.length_range])).mono fun w _ _ he=>EntB b hl hm1 he) ?_
 rintro _ h2 n2 he y2 x2
 rcases he with ⟨c,hmc,hc,hz,hlt,hv,rfl⟩|⟨hv,rfl⟩
 ·refine zG ?_
  have s2:=s1.ext x2 y2
  have gx:(bxS ds B zs m).va[c]?=some (loA ds c):=by
   show (vaM ds zs m)[c]?=_
   rw [hv,vW hc,if_neg (fun e=>by omega)]
  obtain ⟨hzl,hzh,_⟩:=b.at hc
  have T2:Tr n h n2 h2:=T1.trans ⟨y2,fun c hc=>.inl (x2 c hc)⟩
  have g2:=g.t T2
  have n2y:n≤n2:=zo
  have K2:∀b,b<3*n→¬BkOf (.slice A.va ds.length ds.length) b→h2 b=h b:=fun b hb hn=>(x2 b zo).trans (K1 b hb hn)
  clear x2
  have hlv:=zbz k g2 s2 rfl (pO.2 ⟨hc,rfl⟩) gx (zek hc) (aW hc) hzl hzl hzh zo (r:=1) (up:=true) ⟨fun _=>by decide,fun _=>rfl⟩
  simp only [show nP (loA ds c) (true,loA ds c) (true,hiA ds c) true=(true,hiA ds c-loA ds c) from rfl] at hlv
  refine sC hlv ?_
  rintro _ h3 n3 ⟨b3,a3,l3,c3,d3,e3,f3,u3,rfl,i3,j3⟩ y3 x3
  refine zG ?_
  refine sA ?_
  intro h4 p4 x4
  refine zG ?_
  refine sS [.bool b3,.slice a3 l3 c3,.bool d3,.slice e3 f3 u3] ?_
  intro h5 p5 o5
  refine zG ?_
  refine zu [0,0,0,0,8,28,63] rfl ?_
  refine zH ?_
  refine dC (dR _ _ _) ?_
  rintro _ h6 n6 ⟨b6,a6,l6,c6,d6,e6,f6,u6,rfl,i6,j6⟩ y6 x6
  have hzr:=hzh.sub hzl
  refine dC (mulQ _ (g2.t zt) (i3.t zt) (j3.t zt) i6 j6 hzr (b:=1) (show Sz 1 (1:Rat) from ⟨by decide,by decide⟩) zo) ?_
  rintro _ h7 n7 ⟨b7,a7,l7,c7,d7,e7,f7,u7,rfl,i7,j7⟩ y7 x7
  have X7:Exo n2 h2 h7:=⟨(show Tx n2 h2 n7 h7 from zx).2⟩
  have n7y:n2≤n7:=(show Tx n2 h2 n7 h7 from zx).1
  rw [Rat.mul_one] at i7 j7
  have hmv:=zi3 (k+2) (g2.ext X7.go n7y) (s2.ext X7.go n7y) rfl (pO.2 ⟨hc,rfl⟩) gx i7 j7 hzl hzr zo
  refine wV _ R7 hmv ?_
  rintro _ h8 n8 w8 ⟨y8,s8,T8,K8,hw8,hr8⟩
  refine ⟨rF rfl rfl,y8,?_⟩
  rw [show loA ds c+(hiA ds c-loA ds c)=hiA ds c from by rw [Rat.add_comm,Rat.sub_add_cancel],zcu hz hv] at s8
  rw [lva] at K8 hr8
  have hin8:bv∈w8:=by
   rcases hr8 with hr|hr
   ·have e:hiA ds c=loA ds c:=by
     have e2:=Rat.sub_add_cancel (a:=hiA ds c) (b:=loA ds c)
     rw [hr,Rat.zero_add] at e2
     exact e2.symm
    rw [e] at hlt
    exact absurd hlt Rat.lt_irrefl
   exact hr bv ⟨0,ds.length,ds.length,by rw [evv]⟩
  refine zJ ?_
  exact sK (c+1) ⟨zo,s8,T2.trans (Tr.trans ⟨n7y,fun c hc=>.inl (X7.go c hc)⟩ T8),fun b hb hn=>(K8 b zo hn).trans ((X7.go b zo).trans (K2 b hb hn)),vM hw8 hw1,.inr (jA hbv hin8),by show c+1≤_;omega⟩
 refine zG ?_
 have e1:bxS ds B zs m=bxS ds B zs ds.length:=by
  show ({dN ds ds.length with va:=vaM ds zs m,ta:=[(B,zs)]}:Sol)=_
  rw [hv]
  rfl
 refine ⟨rfl,[_,_,_],rfl,⟨rfl,zo,e1▸s1.ext x2 y2,T1.trans ⟨y2,fun c hc=>.inl (x2 c hc)⟩,fun b hb hn=>(x2 b zo).trans (K1 b hb hn),hw1⟩,fun hw=>?_⟩
 have hw:w1=[]:=hw
 rcases hin1 with rfl|hin
 ·exact ⟨rfl,Nat.le_refl _,e1▸s,Tr.refl _ _,(by intros;trivial),fun c hc=>absurd hc List.not_mem_nil⟩
 rw [hw] at hin
 cases hin
end
end
end
section
theorem QS.go {h h':HF}{n n':Nat}{v:Value}{q:List Rat}(r:QS h n v q)(T:Tr n h n' h')(hk:∀a l c,v=.slice (some a) l c→h' a.block=h a.block):QS h' n' v q:=by
 obtain ⟨cells,h1,h2⟩:=r
 exact ⟨cells,h1.keep hk T.1,h2.mono fun _ _ r=>ratP.kp.t r T⟩
section
variable {X:CtxF}{ops r:List Oper}{ms:List Nat}{i m:Nat}{t:TF}{h:HF}{n:Nat}{w:List Nat}{al ld:List (Nat×Nat)}{ef:List (Nat×HF×List Nat)}{Q:SV→Prop}{o:Oper}{d:Tmp}
theorem bW {ty e:TypeId}{x lo:Operand}{b sz bt N:Nat}{z:Value}{ik:IntKind}{j:Int}(hw:zh ops t o=true∧o.dst=some d∧zn X.nt (some d)=true∧o.op=.slice ty x (some lo) none none∧X.E.und ty=some (.slice e)∧X.E.inf e=some (sz,bt,z)∧evF t x=.slice (some ⟨b,0,none⟩) N N∧evF t lo=.int ik j∧j=(N:Int))(hg:gro b=false)(k:ED X ops r ms (i+1) ⟨⟨upd t d (.slice (some ⟨b,0,none⟩) 0 0),h,n,w⟩,al,ld,ef⟩ Q):ED X ops (o::r) (m::ms) i ⟨⟨t,h,n,w⟩,al,ld,ef⟩ Q:=by
 obtain ⟨hw,hd,hn,ho,hu,hi',hx,hj,hm⟩:=hw
 refine yG hw hd hn (by rw [ho];rfl) ?_ k
 rw [ho]
 subst hm
 show yW X.E ty (evF t x) (some (evF t lo)) none=_
 rw [hx,hj]
 have h1:(0:Int)≤(N:Int)∧(N:Int)≤N:=zo
 have h2:offA N N sz ⟨b,0,none⟩=⟨b,0,none⟩:=by unfold offA;simp
 simp only [yW,hu,hi',bnd,if_pos h1,Int.toNat_natCast,hg,Bool.false_and,h2,Nat.sub_self]
end
theorem mj (k:Nat){l n bs:Nat}{h:HF}{d:Sol}{A:Adr}(g:GG h n)(s:SM l h n bs d A){Bl N:Nat}{ls:List Rat}(ol:OR 4 ratP h n Bl ls)(gB:gro Bl=false)(hne:Bl≠bs)(hl:ls.length=N)(hs:d.sc.length=N)(hN:d.n=N)(hN2:N≤900){a b:Nat}(hzl:∀q∈ls,Sz a q)(hzs:∀q∈d.sc,Sz b q)(hab:a+b≤1900):
  CF (cal (k+13)) 31 [.pointer (some ⟨bs,0,none⟩),.slice (some ⟨Bl,0,none⟩) N N] h n fun w h' n' W=>(∃a1 l1 c1 a2 l2 c2,w=.tuple #[.slice a1 l1 c1,.slice a2 l2 c2])∧n≤n'∧ExtB n [Bl] h h'∧Tr n h n' h'∧∀c∈W,c=Bl:=by
 obtain ⟨b0,a0,u0,c0,ty,st,i0⟩:=s.st
 have hbs:=s.bs.1
 have hBl:=ol.1
 rw [hs,hN] at st
 have gs:=s.sc
 rw [hs] at gs
 refine pi (fn:=Tryz.f31) R4 ?_
 refine zG ?_
 have hf:∀j,ls[j]?=some ((ls[j]?).getD 0)∨ls.length≤j:=fun j=>by
  by_cases h:j<ls.length
  ·rw [List.getElem?_eq_getElem h];exact .inl rfl
  exact .inr zo
 have e0:ls=mixF (fun j=>(ls[j]?).getD 0*(d.sc[j]?).getD 0) (fun j=>(ls[j]?).getD 0) 0 N:=by
  refine List.ext_getElem? fun j=>?_
  by_cases h:j<N
  ·rw [xn h,if_neg (Nat.not_lt_zero _)]
   rcases hf j with e|e
   ·exact e
   omega
  rw [List.getElem?_eq_none zo,List.getElem?_eq_none (by rw [yI];omega)]
 refine sF (α:=Nat) (fun z=>[(0,.pointer (some ⟨bs,0,none⟩)),(1,.slice (some ⟨Bl,0,none⟩) N N),(11,.slice A.sc N N),(12,.int .i64 (N:Int)),(13,.int .i64 (z:Int))]) (fun z h' n' w'=>n≤n'∧ExtB n [Bl] h h'∧Tr n h n' h'∧OR 4 ratP h' n' Bl (mixF (fun j=>(ls[j]?).getD 0*(d.sc[j]?).getD 0) (fun j=>(ls[j]?).getD 0) z N)∧(∀c∈w',c=Bl)∧z≤N) (fun z=>N-z) 0 ⟨Nat.le_refl _,ExtB.refl _ _ _,Tr.refl _ _,ol.as e0,fun c hc=>absurd hc List.not_mem_nil,Nat.zero_le _⟩ ?_
 rintro j t h1 n1 w1 ⟨y1,Y1,T1,o1,hw1,hj⟩
 have y1:n≤n1:=y1
 have T1:Tr n h n1 h1:=T1
 have o1:OR 4 ratP h1 n1 Bl (mixF (fun j=>(ls[j]?).getD 0*(d.sc[j]?).getD 0) (fun j=>(ls[j]?).getD 0) j N):=o1
 have hj:j≤N:=hj
 have k1:∀c,c<3*n→c≠Bl→h1 c=h c:=fun c hc hn=>Y1 c hc (by simpa using hn)
 have gs1:=gs.go ratP.kp T1 fun b hb=>k1 b (gs.bk b hb).2.1 fun e=>by have:=(gs.bk b hb).2.2.1;rw [e,gB] at this;cases this
 have st1:h1 bs=_:=(k1 bs hbs (Ne.symm hne)).trans st
 have g1:=g.t T1
 clear Y1
 refine zG ?_
 by_cases q1:(j:Int)<(N:Int)
 ·refine zG ?_
  have hjN:j<N:=zo
  obtain ⟨sc,gsc⟩:∃x,d.sc[j]?=some x:=⟨_,List.getElem?_eq_getElem zo⟩
  obtain ⟨lj,glj⟩:∃x,ls[j]?=some x:=⟨_,List.getElem?_eq_getElem zo⟩
  obtain ⟨k2,o2,b2,a2,l2,c2,d2,e2,f2,u2,ev,mv,rv,tv,iv,jv⟩:=QS.at gs1.rs gsc
  refine sI ev rv ?_
  refine sL tv mv 0 ?_
  refine sA ?_
  intro h3 p3 x3
  refine zG ?_
  refine sSn (n0:=n) [.bool b2,.slice a2 l2 c2,.bool d2,.slice e2 f2 u2] ?_
  intro h4 p4 o4
  refine zG ?_
  have k4:∀c,c<3*n1→h4 c=h1 c:=fun c hc=>(o4.1 c zo).trans (x3 c hc)
  have T4:Tr n1 h1 (n1+1) h4:=zt
  have ob:=o1.go ratP.kp T4 (k4 Bl o1.1)
  refine zu [0,0,0,0,12,28,0,124,255,511] rfl ?_
  refine zH ?_
  obtain ⟨c5,⟨b5,a5,l5,c5,d5,e5,f5,u5,rfl,i5,j5⟩,_,t5⟩:=ob.get (xn hjN) (off:=0+j*4) (Nat.zero_add _)
  rw [if_neg (Nat.lt_irrefl _),glj] at i5 j5
  refine dI rfl hjN ?_
  refine dL t5 ob.1 0 ?_
  refine zH ?_
  refine dC (mulQ _ (g1.t T4) (x:=lj) i5 j5 (iv.t T4) (jv.t T4) (hzl _ (List.mem_of_getElem? glj)) (hzs _ (List.mem_of_getElem? gsc)) zo) ?_
  rintro _ h6 n6 ⟨b6,a6,l6,c6,d6,e6,f6,u6,rfl,i6,j6⟩ y6 x6
  refine dI rfl hjN ?_
  have ob6:=ob.ext (n':=n6) ratP.kp x6 y6
  refine dZ (n0:=n) (j:=j) (q:=lj*sc) [.bool b6,.slice a6 l6 c6,.bool d6,.slice e6 f6 u6] ob6 ratP.kp (by rw [yI];exact hjN) (Nat.zero_add _) ⟨_,_,_,_,_,_,_,_,rfl,i6,j6⟩ ?_ (h3:=by first|exact rfl|exact rF rfl rfl|exact rF rfl (rF rfl rfl))
  intro h7 o7 S7 _
  refine zG ?_
  have e7:=rR (f:=fun j=>(ls[j]?).getD 0*(d.sc[j]?).getD 0) (g:=fun j=>(ls[j]?).getD 0) hjN
  have e8:(ls[j]?).getD 0*(d.sc[j]?).getD 0=lj*sc:=by rw [glj,gsc];rfl
  rw [e8] at e7
  rw [e7] at o7
  exact sK (j+1) ⟨zo,fun c hc hn=>(by
   have hn':c≠Bl:=fun e=>hn (List.mem_singleton.2 e)
   exact (S7.1 c hn').trans ((x6 c zo).trans ((k4 c zo).trans (k1 c hc hn')))),T1.trans (T4.trans (Tr.s S7 (Tr.e x6 y6 (Tr.refl _ _)))),o7,vM (fun c hc=>List.mem_singleton.1 hc) hw1,by show j+1≤N;omega⟩
 have hjN:j=N:=zo
 subst hjN
 refine zG ?_
 refine zu [0,0,2,6,14,31,63,0,0,256,768,1792,3968,8191,16383,32767] rfl ?_
 refine zH ?_
 refine bW (N:=j) R9 gB ?_
 refine dC (pW _ g1 (qs:=[]) (m:=1) ⟨[],.nil (.inr ⟨Bl,0,none,rfl,o1.1⟩),.nil⟩ zo (fun q hq=>absurd hq List.not_mem_nil) zo) ?_
 rintro _ h3 n3 ⟨b3,ss3,rfl,_,_,_⟩ y3 x3
 refine zH ?_
 refine sG j R6 rfl rfl rfl (Nat.le_refl _) ?_
 have o3:=o1.ext (n':=n3) ratP.kp x3 y3
 refine dC (pW _ (g1.ext x3 y3) (o3.sl (by rw [yI]) (Nat.le_refl _)) zo (m:=a+b) (fun q hq=>?_) zo) ?_
 ·obtain ⟨i,hi,rfl⟩:=List.mem_map.1 hq
  have hi:=List.mem_range.1 hi
  rw [if_pos hi]
  obtain ⟨sc,gsc⟩:∃x,d.sc[i]?=some x:=⟨_,List.getElem?_eq_getElem zo⟩
  obtain ⟨lj,glj⟩:∃x,ls[i]?=some x:=⟨_,List.getElem?_eq_getElem zo⟩
  show Sz (a+b) ((ls[i]?).getD 0*(d.sc[i]?).getD 0)
  rw [glj,gsc]
  exact (hzl _ (List.mem_of_getElem? glj)).mul (hzs _ (List.mem_of_getElem? gsc))
 rintro _ h4 n4 ⟨b4,ss4,rfl,_,_,_⟩ y4 x4
 refine zJ ?_
 refine ⟨rfl,[_,_],rfl,⟨⟨_,_,_,_,_,_,rfl⟩,zo,fun c hc hn=>?_,T1.trans (Tr.trans ⟨y3,fun c hc=>.inl (x3 c hc)⟩ ⟨y4,fun c hc=>.inl (x4 c hc)⟩),hw1⟩,fun _=>⟨⟨_,_,_,_,_,_,rfl⟩,Nat.le_refl _,ExtB.refl _ _ _,Tr.refl _ _,fun c hc=>absurd hc List.not_mem_nil⟩⟩
 have hn':c≠Bl:=fun e=>hn (List.mem_singleton.2 e)
 exact (x4 c zo).trans ((x3 c zo).trans (k1 c hc hn'))
end
section
theorem SM.bx {l n bs B m:Nat}{h:HF}{A:Adr}{ds:List SideD}{ziz:List Int}(s:SM l h n bs (bxS ds B ziz m) A):∃b a u c ty,h bs=some (.row [.int .i64 (ds.length:Int),.slice A.sc ds.length ds.length,.slice A.lo ds.length ds.length,.slice A.hi ds.length ds.length,.slice A.va ds.length ds.length,.slice A.ba 0 0,.slice A.nb ds.length ds.length,.slice A.ta 1 1,.bool b,.slice a u c] ty)∧IW h n b a u c 1:=by
 obtain ⟨b,a,u,c,ty,st,i⟩:=s.st
 have e1:(bxS ds B ziz m).sc.length=ds.length:=List.length_replicate
 have e2:(bxS ds B ziz m).lo.length=ds.length:=by show ((ds.take ds.length).map _).length=_;rw [List.length_map,List.take_length]
 have e3:(bxS ds B ziz m).hi.length=ds.length:=by show ((ds.take ds.length).map _).length=_;rw [List.length_map,List.take_length]
 have e4:(bxS ds B ziz m).va.length=ds.length:=yN
 have e5:(bxS ds B ziz m).nb.length=ds.length:=List.length_range
 rw [e1,e2,e3,e4,e5] at st
 exact ⟨b,a,u,c,ty,st,i⟩
structure BoxP (p:LPD)(a:Nat):Prop where
 v:VLP p
 b:LPB a p
 r:p.rows=[]
 lo:∀s∈p.lower,wi s
 hi:∀s∈p.upper,wi s
theorem BoxP.box {p:LPD}{a:Nat}(b:BoxP p a):BoxD (xQ p) a∧(xQ p).length=p.obj.length:=by
 have hl:(xQ p).length=p.obj.length:=by
  unfold xQ
  rw [List.length_zipWith,b.v.ll,b.v.lu,Nat.min_self]
 have key:∀d∈xQ p,∃j lo hi,p.lower[j]?=some lo∧p.upper[j]?=some hi∧d.lo=lo∧d.hi=hi:=fun d hd=>by
  obtain ⟨j,hj⟩:=List.mem_iff_getElem?.1 hd
  have hjl:=(List.getElem?_eq_some_iff.1 hj).1
  have h1:=List.getElem?_eq_getElem (l:=p.lower) (i:=j) (by have:=b.v.ll;omega)
  have h2:=List.getElem?_eq_getElem (l:=p.upper) (i:=j) (by have:=b.v.lu;omega)
  rw [qO h1 h2] at hj
  cases hj
  exact ⟨j,_,_,h1,h2,rfl,rfl⟩
 refine ⟨⟨fun d hd=>?_,fun d hd=>?_,by have:=b.v.n2;omega⟩,hl⟩
 ·obtain ⟨j,lo,hi,h1,h2,e1,e2⟩:=key d hd
  rw [e1,e2]
  exact ⟨fun e=>xM (e▸b.lo _ (List.mem_of_getElem? h1)),fun e=>xM (e▸b.hi _ (List.mem_of_getElem? h2)),(b.b.lw _ (List.mem_of_getElem? h1)).2,(b.b.up _ (List.mem_of_getElem? h2)).2⟩
 obtain ⟨j,lo,hi,h1,h2,e1,e2⟩:=key d hd
 rw [e1,e2]
 rcases (b.v.bd j lo hi h1 h2).2.2 with h|h|h
 ·exact absurd (b.lo _ (List.mem_of_getElem? h1)) (h▸xM)
 ·exact absurd (b.hi _ (List.mem_of_getElem? h2)) (h▸xM)
 exact h
theorem za7 (k:Nat){h:HF}{n:Nat}(g:GG h n){ao ar aw au:Option Addr}{lo co lr cr lw cw lu cu:Nat}{p:LPD}(io:Sl h n 1 (.slice ao lo co) (strs p.obj))(ir:RWS h n (.slice ar lr cr) p.rows)(iw:Sl h n 1 (.slice aw lw cw) (strs p.lower))(iu:Sl h n 1 (.slice au lu cu) (strs p.upper)){a P:Nat}(hb:BoxP p a)(ha:4*a≤1200)(hP:a*p.obj.length+a+1≤P)(hP2:P≤900)(hd:p.obj.length*(a+a+1)+a+a+2≤1900):
  CX (cal (k+14)) 10 [.agg #[.slice ao lo co,.slice ar lr cr,.slice aw lw cw,.slice au lu cu]] h n fun w _ _=>∃ziz s aX lX cX aR lR cR aC lC cC,ScR (p.obj.map zk) P ziz s∧w=.tuple #[.agg #[.int .i64 1,.string ⟨⟨ratT (dotR (p.obj.map zk) (vaM (xQ p) ziz (xQ p).length))⟩⟩,.slice aX lX cX,.slice none 0 0,.slice aR lR cR,.slice aC lC cC],.int .i64 0]:=by
 obtain ⟨bx,hN⟩:=hb.box
 have hn1:=hb.v.n1
 have hn2:=hb.v.n2
 have hzo:∀q∈p.obj.map zk,Sz a q:=fun q hq=>by
  obtain ⟨s,hs,rfl⟩:=List.mem_map.1 hq
  exact (hb.b.ob s hs).2
 have lo1:(p.obj.map zk).length=p.obj.length:=List.length_map ..
 generalize hcs:p.obj.map zk=cs at*
 rw [←lo1] at hd
 generalize hds:xQ p=ds at*
 refine zv (fn:=Tryz.f10) R4 ?_
 refine zG ?_
 refine sB [.slice ao lo co,.slice ar lr cr,.slice aw lw cw,.slice au lu cu] ?_
 intro h1 p1 x1
 refine sA ?_
 intro h2 p2 x2
 refine zG ?_
 refine sC (ziy _ (g.x zx) (io.x zx) (ir.x zx) (iw.x zx) (iu.x zx) hb.b zo) ?_
 rintro _ h3 n3 ⟨aO,lO,kO,aR,lR,kR,aC,lC,kC,ok,rfl,hok,hq⟩ y3 x3
 obtain rfl:=hok.2 hb.v
 obtain ⟨iO,iR,iC⟩:=hq rfl
 rw [hcs] at iO
 rw [hds] at iC
 have lR0:lR=0:=by
  have:=iR.sds.len
  rw [this]
  unfold rE
  rw [hb.r]
  rfl
 subst lR0
 have lO0:=iO.1.len
 subst lO0
 refine zG ?_
 refine sA ?_
 intro h4 p4 x4
 refine zG ?_
 refine sS [.slice aO cs.length kO,.slice aR 0 kR,.slice aC lC kC] ?_
 intro h5 p5 o5
 refine zG ?_
 have iO5:=iO.x (h':=h5) (n':=n3+1) zx
 have iC5:=iC.x (h':=h5) (n':=n3+1) zx
 have hL:cs.length=ds.length:=zo
 refine sC (fF _ (g.x zx) (aR:=aR) (cR:=kR) iO5.1 iC5.sds (P:=P) bx.d hzo (by rw [lo1];exact hP) zo hL zo) ?_
 rintro _ h6 n6 ⟨bs,A,B,ziz,s,rfl,hbs,s6,hsc⟩ y6 x6
 have hzs:ziz.length=ds.length:=by rw [hsc.len];exact hL
 have e6:({dN ds ds.length with ta:=[(B,ziz)]}:Sol)=bxS ds B ziz 0:=by
  show _=({dN ds ds.length with va:=vaM ds ziz 0,ta:=[(B,ziz)]}:Sol)
  rw [←dl]
  rfl
 rw [e6] at s6
 refine zG ?_
 refine sC (ze9 _ s6 rfl) ?_
 rintro _ h7 n7 rfl y7 x7
 have s7:=s6.ext x7 y7
 refine zG ?_
 have hop:=cm k (g.x (h':=h7) (n':=n7) zx) s7 bx hzs zo zo
 refine zw _ R5 hop ?_
 rintro _ h8 n8 w8 ⟨rfl,y8,s8,T8,K8,hw8⟩
 rw [aE,z6 (show ∀c∈w8,3*n≤c from fun c hc=>by have:=hw8 c hc;omega)]
 have gA:∀c,gro c=false→¬BkOf (.slice A.va ds.length ds.length) c:=fun c hg hb=>by
  have:=s7.va.nbk (b:=c) hg
  rw [show (bxS ds B ziz 0).va.length=ds.length from yN] at this
  exact this hb
 have K8':∀c,c<3*n7→gro c=false→h8 c=h7 c:=fun c hc hg=>K8 c hc (gA c hg)
 have p18:h8 (3*n+2)=_:=(K8' _ zo (zA _)).trans zp
 have p28:h8 (3*(n+1)+2)=_:=(K8' _ zo (zA _)).trans zp
 have p48:h8 (3*n3+2)=_:=(K8' _ zo (zA _)).trans zp
 have X08:Exo n h h8:=⟨fun c hc=>(K8 c zo (fun hb=>by
  have:=(s7.va.bk c (by rw [show (bxS ds B ziz 0).va.length=ds.length from yN];exact hb)).1
  omega)).trans ((show Tx n h n7 h7 from zx).2 c hc)⟩
 have g8:GG h8 n8:=g.ext X08.go zo
 have iO8:QS h8 n8 (.slice aO cs.length kO) cs:=QS.go (iO5.1.x (h':=h7) (n':=n7) zx) T8 fun ad l c e=>by
  have h1:=iO5.2 ad l c e
  refine K8' _ ?_ h1.2
  have:=(iO5.1.ext (n':=n3+1) (Ext.refl _ _) (Nat.le_refl _))
  obtain ⟨cells,q1,q2⟩:=this
  have q3:=q1.below
  rw [e] at q3
  have q3:ad.block<3*(n3+1):=q3
  omega
 have n8y:n6≤n8:=zo
 clear x7 x6 x4 o5 x3 x2 x1 p1 p2 p4 p5 K8 K8' T8 hop s7 s6 y7 y8 hw8
 obtain ⟨b9,a9,u9,c9,ty,st8,iD8⟩:=s8.bx
 have lva:(bxS ds B ziz ds.length).va.length=ds.length:=yN
 have qv8:QS h8 n8 (.slice A.va ds.length ds.length) (vaM ds ziz ds.length):=by
  have:=s8.va.rs
  rw [lva] at this
  exact this
 have hzv:∀q∈vaM ds ziz ds.length,Sz a q:=(zej (B:=B) (zs:=ziz) (m:=ds.length) bx).va
 have hbs8:=s8.bs.1
 refine zG ?_
 refine zu [0,1,3,7,0,16,48,112,255,511,1023] rfl ?_
 refine zH ?_
 obtain ⟨bv,evv,gv,lv,ov,tyv⟩:=s8.va.or rfl (by rw [lva];omega)
 injection evv with evv
 rw [evv] at qv8
 refine sG (b:=bv) (off:=0) ds.length R6 (by show Value.slice A.va ds.length ds.length=_;rw [evv]) rfl rfl (Nat.le_refl _) ?_
 refine dC (pW _ g8 qv8 zo hzv zo) ?_
 rintro _ h9 n9 ⟨bX,ss9,rfl,_,_,_⟩ y9 x9
 have x9:Exo n8 h8 h9:=⟨x9⟩
 have p49:h9 (3*n3+2)=_:=(x9.go _ zo).trans p48
 have p29:h9 (3*(n+1)+2)=_:=(x9.go _ zo).trans p28
 have st9:h9 bs=_:=(x9.go _ hbs8).trans st8
 refine zJ ?_
 have g9:GG h9 n9:=g8.ext x9.go y9
 refine sC (pA _ g9 (iO8.ext x9.go y9) hzo (by rw [lo1];exact hP) zo zo) ?_
 rintro _ h10 n10 ⟨B2,zs2,s2,b10,a10,l10,c10,d10,e10,f10,u10,rfl,_,_,_,_,hsc2,i10,j10⟩ y10 x10
 refine zG ?_
 refine sA ?_
 intro h11 p11 x11
 refine zG ?_
 refine sS [.bool b10,.slice a10 l10 c10,.bool d10,.slice e10 f10 u10] ?_
 intro h12 p12 o12
 have i12:=i10.t (show Tr n10 h10 (n10+1) h12 from zt)
 have j12:=j10.t (show Tr n10 h10 (n10+1) h12 from zt)
 have k12:∀c,c<3*n9→h12 c=h9 c:=fun c hc=>(o12.1 c zo).trans ((x11 c zo).trans (x10 c hc))
 have st12:h12 bs=_:=(k12 bs zo).trans st9
 have p412:h12 (3*n3+2)=_:=(k12 _ zo).trans p49
 have p212:h12 (3*(n+1)+2)=_:=(k12 _ zo).trans p29
 have X12:Exo n8 h8 h12:=⟨fun c hc=>(k12 c zo).trans (x9.go c hc)⟩
 clear p49 p29 st9 x11 x10 o12 k12 p11 i10 j10
 refine zG ?_
 refine sMk (L:=ds.length) [.bool false,.slice none 0 0,.bool false,.slice none 0 0] ?_ zo
 intro h13 p13 x13
 obtain ⟨Bl,hBl⟩:∃B,B=3*(n10+1)+2:=⟨_,rfl⟩
 have gl:gro Bl=false:=by rw [hBl];exact zA _
 have o13:OR 4 ratP h13 (n10+1+1) Bl (List.replicate ds.length 0):=by
  rw [hBl]
  exact OR.fill (n:=n10+1+1) zo p13 ratP.kp ⟨_,_,_,_,_,_,_,_,rfl,IW.zero _ _,IW.zero _ _⟩
 rw [←hBl]
 have x13:Exo (n10+1) h12 h13:=⟨x13⟩
 have st13:h13 bs=_:=(x13.go bs zo).trans st12
 have p413:h13 (3*n3+2)=_:=(x13.go _ zo).trans p412
 have p213:h13 (3*(n+1)+2)=_:=(x13.go _ zo).trans p212
 have p1613:h13 (3*n10+2)=_:=(x13.go _ zo).trans p12
 have i13:=i12.ext (n':=n10+1+1) x13.go zs
 have j13:=j12.ext (n':=n10+1+1) x13.go zs
 have X13:Exo n8 h8 h13:=⟨fun c hc=>(x13.go c zo).trans (X12.go c hc)⟩
 clear st12 p12 p412 p212 p13
 refine zG ?_
 have hzf:∀j:Nat,Sz (P+P) (Rat.divInt ((ziz[j]?).getD 0) 1/s2):=fun j=>by
  have hz:((ziz[j]?).getD 0).natAbs<2^P:=by
   cases hj:ziz[j]? with
   |none=>exact Nat.two_pow_pos P
   |some z=>exact hsc.zb z (List.mem_of_getElem? hj)
  exact (wY zd hz (Nat.one_lt_two_pow zo)).div hsc2.sz
 refine sF (α:=Nat) (fun z=>[(2,.pointer (some ⟨3*(n+1)+2,0,none⟩)),(4,.pointer (some ⟨3*n3+2,0,none⟩)),(6,.pointer (some ⟨bs,0,none⟩)),(14,.slice (some ⟨bX,0,none⟩) ds.length ds.length),(16,.pointer (some ⟨3*n10+2,0,none⟩)),(17,.slice (some ⟨Bl,0,none⟩) ds.length ds.length),(90,.slice A.nb ds.length ds.length),(91,.int .i64 (ds.length:Int)),(92,.int .i64 (z:Int))]) (fun z h' n' w'=>w'=[]∧n10+1+1≤n'∧ExtB (n10+1+1) [Bl] h13 h'∧Tr (n10+1+1) h13 n' h'∧OR 4 ratP h' n' Bl (mixF (fun j=>Rat.divInt ((ziz[j]?).getD 0) 1/s2) (fun _=>0) z ds.length)∧z≤ds.length) (fun z=>ds.length-z) 0 ⟨rfl,Nat.le_refl _,ExtB.refl _ _ _,Tr.refl _ _,o13.as mn,Nat.zero_le _⟩ ?_
 rintro j t h14 n14 _ ⟨rfl,y14,Y14,T14,o14,hj⟩
 have y14:n10+1+1≤n14:=y14
 have T14:Tr (n10+1+1) h13 n14 h14:=T14
 have o14:OR 4 ratP h14 n14 Bl (mixF (fun j=>Rat.divInt ((ziz[j]?).getD 0) 1/s2) (fun _=>0) j ds.length):=o14
 have hj:j≤ds.length:=hj
 have k14:∀c,c<3*(n10+1+1)→c≠Bl→h14 c=h13 c:=fun c hc hn=>Y14 c hc (by simpa using hn)
 have X14:Exo n8 h8 h14:=⟨fun c hc=>(k14 c zo zo).trans (X13.go c hc)⟩
 have s14:=s8.ext (n':=n14) X14.go zo
 have st14:h14 bs=_:=(k14 bs zo zo).trans st13
 have p414:h14 (3*n3+2)=_:=(k14 _ zo zo).trans p413
 have p214:h14 (3*(n+1)+2)=_:=(k14 _ zo zo).trans p213
 have p1614:h14 (3*n10+2)=_:=(k14 _ zo zo).trans p1613
 have i14:=i13.t T14
 have j14:=j13.t T14
 have g14:GG h14 n14:=g8.ext X14.go zo
 clear Y14
 refine zG ?_
 by_cases q14:(j:Int)<(ds.length:Int)
 ·refine zG ?_
  have hjN:j<ds.length:=zo
  obtain ⟨z,gz⟩:∃z,ziz[j]?=some z:=⟨_,List.getElem?_eq_getElem zo⟩
  have lnb:(bxS ds B ziz ds.length).nb.length=ds.length:=List.length_range
  have nb14:=s14.nb.rs
  rw [lnb] at nb14
  obtain ⟨k15,o15,e15,m15,r15,t15⟩:=natS.at nb14 (pO.2 ⟨hjN,rfl⟩)
  refine sI e15 r15 ?_
  refine sL t15 m15 0 ?_
  refine zG ?_
  refine zu [0,0,0,0,8,24,56,120,0,508,0,2044,4095,8191] rfl ?_
  refine zH ?_
  have hzb:=hsc.zb z (List.mem_of_getElem? gz)
  refine dC (zi6 _ g14 s14 (i:=0) (r:=(B,ziz)) rfl gz (wg hzb zo) (wg (e:=1) (by show 1<2;omega) zo) (by show (1:Int)≠0;omega)) ?_
  rintro _ h16 n16 ⟨b16,a16,l16,c16,d16,e16,f16,u16,rfl,i16,j16⟩ y16 x16
  have i16:IW h16 n16 b16 a16 l16 c16 (Rat.divInt z 1).num:=i16
  have j16:IW h16 n16 d16 e16 f16 u16 (denZ (Rat.divInt z 1)):=j16
  refine zH ?_
  refine dC (divQ _ (g14.ext x16 y16) i16 j16 (i14.ext x16 y16) (j14.ext x16 y16) (wY zd hzb (Nat.one_lt_two_pow zo)) hsc2.sz zo) ?_
  rintro _ h17 n17 ⟨b17,a17,l17,c17,d17,e17,f17,u17,rfl,i17,j17⟩ y17 x17
  refine dI rfl hjN ?_
  have X17:Exo n14 h14 h17:=⟨fun c hc=>(x17 c zo).trans (x16 c hc)⟩
  refine dZn (n0:=n) (j:=j) (q:=Rat.divInt z 1/s2) [.bool b17,.slice a17 l17 c17,.bool d17,.slice e17 f17 u17] (o14.ext (n':=n17) ratP.kp X17.go zo) ratP.kp (by rw [yI];exact hjN) (Nat.zero_add _) ⟨_,_,_,_,_,_,_,_,rfl,i17,j17⟩ zo ?_
  have e18:=rR (f:=fun j=>Rat.divInt ((ziz[j]?).getD 0) 1/s2) (g:=fun _=>0) hjN
  have e19:(ziz[j]?).getD 0=z:=by rw [gz];rfl
  rw [e19] at e18
  rw [e18]
  intro h18 o18 S18
  refine zG ?_
  exact sK (j+1) ⟨rfl,zo,fun c hc hn=>(S18.1 c (fun e=>hn (List.mem_singleton.2 e))).trans ((X17.go c zo).trans (k14 c hc (fun e=>hn (List.mem_singleton.2 e)))),T14.trans (Tr.trans ⟨show n14≤n17 by omega,fun c hc=>.inl (X17.go c hc)⟩ (Tr.s S18 (Tr.refl _ _))),o18,by show j+1≤_;omega⟩
 have hjN:j=ds.length:=zo
 subst hjN
 refine zG ?_
 have hmu:=mj (k+0) g14 s14 (Bl:=Bl) (N:=ds.length) o14 gl zo yI List.length_replicate rfl zo (a:=P+P) (b:=1) (fun q hq=>by
  obtain ⟨i,hi,rfl⟩:=List.mem_map.1 hq
  rw [if_pos (List.mem_range.1 hi)]
  exact hzf i) (fun q hq=>by
  have e:q=1:=List.eq_of_mem_replicate hq
  rw [e]
  exact ⟨by decide,by decide⟩) zo
 refine zw _ R5 hmu ?_
 rintro _ h15 n15 w15 ⟨⟨a1,l1,c1,a2,l2,c2,rfl⟩,y15,Y15,T15,hw15⟩
 rw [aE,z6 (show ∀c∈w15,3*n≤c from fun c hc=>by have:=hw15 c hc;omega)]
 have k15:∀c,c<3*n14→c≠Bl→h15 c=h14 c:=fun c hc hn=>Y15 c hc (by simpa using hn)
 have X15:Exo n8 h8 h15:=⟨fun c hc=>(k15 c zo zo).trans (X14.go c hc)⟩
 have st15:h15 bs=_:=(k15 bs zo zo).trans st14
 have p415:h15 (3*n3+2)=_:=(k15 _ zo zo).trans p414
 have p215:h15 (3*(n+1)+2)=_:=(k15 _ zo zo).trans p214
 have g15:GG h15 n15:=g8.ext X15.go zo
 clear Y15
 refine zG ?_
 refine zu [0,1,0,4,12,28,0,64,192,448,1020,2047,4095,8191] rfl ?_
 refine zH ?_
 refine sG (b:=bv) (off:=0) ds.length R6 (by show Value.slice A.va ds.length ds.length=_;rw [evv]) rfl rfl (Nat.le_refl _) ?_
 have hvl:(vaM ds ziz ds.length).length=ds.length:=yN
 refine dC (dotQ _ g15 (iO8.ext X15.go zo) (qv8.ext X15.go zo) hzo hzv zo zo) ?_
 rw [show (vaM ds ziz ds.length).take cs.length=vaM ds ziz ds.length from List.take_of_length_le zo]
 rintro _ h16 n16 ⟨b16,a16,l16,c16,d16,e16,f16,u16,rfl,i16,j16⟩ y16 x16
 have hds:=ai hzo hzv cs.length (Nat.le_refl _) zo
 rw [List.take_length,show (vaM ds ziz ds.length).take cs.length=vaM ds ziz ds.length from List.take_of_length_le zo] at hds
 refine dC (dF _ (g15.ext x16 y16) i16 j16 hds zo) ?_
 rintro _ h17 n17 rfl y17 x17
 have p217:h17 (3*(n+1)+2)=_:=(x17 _ zo).trans ((x16 _ zo).trans p215)
 have X17:Exo n h h17:=⟨fun c hc=>(x17 c zo).trans ((x16 c zo).trans ((X15.go c zo).trans (X08.go c hc)))⟩
 refine zJ ?_
 refine sT #[.int .i64 1,.string ⟨⟨ratT (dotR cs (vaM ds ziz ds.length))⟩⟩,.slice (some ⟨bX,0,none⟩) ds.length ds.length,.slice none 0 0,.slice a1 l1 c1,.slice a2 l2 c2] ?_
 refine sS (hb:=p217) [.int .i64 1,.string ⟨⟨ratT (dotR cs (vaM ds ziz ds.length))⟩⟩,.slice (some ⟨bX,0,none⟩) ds.length ds.length,.slice none 0 0,.slice a1 l1 c1,.slice a2 l2 c2] ?_
 intro h18 p18 o18
 refine zG ?_
 refine zq ?_ (hx:=⟨zo,fun c hc=>(o18.1 c zo).trans (X17.go c hc)⟩)
 exact ⟨ziz,s,_,_,_,_,_,_,_,_,_,hsc,rfl⟩
end
section
variable {s:List UInt8}{a a1 a2 ax:Option Addr}{b cap cx j l1 l2 lx:Nat}{e:TypeId}
theorem cL (V:Nat):V<10^(decT V).length:=by
 have h:∀V,V<10^(decD V).length:=by
  intro V
  induction V using Nat.strongRecOn with
  |_ V ih=>
   by_cases h0:V=0
   ·subst h0;rw [yZ];exact Nat.one_pos
   rw [xX h0,List.length_append]
   have:=ih (V/10) zo
   rw [show (decD (V/10)).length+[V%10].length=(decD (V/10)).length+1 from rfl,Nat.pow_succ]
   omega
 unfold decT
 split
 ·rename_i h0;rw [h0];decide
 rw [List.length_map,oT];exact h V
theorem Txt.of {m a:Nat}(h:s.length≤m)(hm:m<500)(ha:10^m≤2^a)(h1:1≤a):Txt a s:=by
 refine ⟨zo,?_⟩
 by_cases hn:wi s
 ·have he:=pF hn
  generalize zk s=q at he
  have hl:=congrArg List.length he
  unfold ratT at hl
  simp only [List.length_append] at hl
  constructor
  ·exact Nat.lt_of_lt_of_le (Nat.lt_of_lt_of_le (cL _) (Nat.pow_le_pow_right zd (show _≤m by omega))) ha
  by_cases h2:q.den=1
  ·rw [h2];exact Nat.lt_of_lt_of_le (by decide:(1:Nat)<2^1) (Nat.pow_le_pow_right zd h1)
  rw [if_neg h2,List.length_cons] at hl
  exact Nat.lt_of_lt_of_le (Nat.lt_of_lt_of_le (cL _) (Nat.pow_le_pow_right zd (show _≤m by omega))) ha
 rw [xV hn];exact Sz.zero a h1
theorem zg1 (h:(s.length:Int)≤12):Txt 40 s:=.of (m:=12) zo zd zd zd
def slP (c:List Value)(S:List (List UInt8))(h:HF)(n:Nat):Prop:=∃a l k,c=[.slice a l k]∧Sl h n 1 (.slice a l k) (strs S)
def SLS (h:HF)(n:Nat)(v:Value)(LL:List (List (List UInt8))):Prop:=RS 1 slP h n v LL
theorem SLS.len {h:HF}{n:Nat}{len:Nat}{LL:List (List (List UInt8))}(r:SLS h n (.slice a len cap) LL):len=LL.length:=RS.len' zd r
theorem SLS.at {h:HF}{n:Nat}{len:Nat}{LL:List (List (List UInt8))}{d:List (List UInt8)}(r:SLS h n (.slice a len cap) LL)(hj:LL[j]?=some d):∃bb off a2 l2 k2,a=some ⟨bb,off,none⟩∧bb<3*n∧j<len∧At h bb (off+j*1) [.slice a2 l2 k2]∧Sl h n 1 (.slice a2 l2 k2) (strs d):=by
 obtain ⟨bb,off,c,p1,p2,p3,p4,_,a2,l2,k2,rfl,s⟩:=RS.at' zd r hj
 exact ⟨bb,off,a2,l2,k2,p1,p2,p3,p4,s⟩
theorem SLS.three {h:HF}{n:Nat}{a3:Option Addr}{k1 k2 l3 k3:Nat}{S R C:List (List UInt8)}(hp:h b=some (.row [.slice a1 l1 k1,.slice a2 l2 k2,.slice a3 l3 k3] e))(hb:b<3*n)(h1:Sl h n 1 (.slice a1 l1 k1) (strs S))(h2:Sl h n 1 (.slice a2 l2 k2) (strs R))(h3:Sl h n 1 (.slice a3 l3 k3) (strs C)):SLS h n (.slice (some ⟨b,0,none⟩) 3 3) [S,R,C]:=
 ⟨_,.at_ hb hp rfl (Nat.le_refl _) (Nat.le_refl _) rfl,.cons (c:=[_]) rfl ⟨_,_,_,rfl,h1⟩ (.cons (c:=[_]) rfl ⟨_,_,_,rfl,h2⟩ (.cons (c:=[_]) (cs:=[]) rfl ⟨_,_,_,rfl,h3⟩ .nil))⟩
theorem rX (k:Nat){h:HF}{n:Nat}(g:GG h n):VF (cal (k+1)) 5 [] h n fun v=>v=.bool true:=⟨_,_,_,_,aM k g.1 n,rfl,rfl,rfl,rfl⟩
section
variable {X:CtxF}{ops r:List Oper}{ms:List Nat}{i m:Nat}{t:TF}{h:HF}{n:Nat}{w:List Nat}{al ld:List (Nat×Nat)}{ef:List (Nat×HF×List Nat)}{Q:SV→Prop}{o:Oper}{d:Tmp}
end
theorem zg9 (k:Nat){h:HF}{n:Nat}(m:Int){S:List (List UInt8)}(ix:Sl h n 1 (.slice ax lx cx) (strs S))(hb:S.length<100000000):VF (cal (k+1)) 11 [.int .i64 m,.slice ax lx cx] h n fun v=>∃b:Bool,v=.bool b∧(b=true↔∀s∈S,(s.length:Int)≤m):=by
 have lx1:=wz ix
 refine zB (fn:=Tryz.f11) R4 ?_
 refine zG ?_
 refine sF (α:=Nat) (fun z=>[(0,.int .i64 m),(1,.slice ax lx cx),(5,.int .i64 (z:Int))]) (fun z h' n' w'=>w'=[]∧n≤n'∧ExtB n [] h h'∧z≤S.length∧∀s∈S.take z,(s.length:Int)≤m) (fun z=>S.length-z) 0 ⟨rfl,Nat.le_refl _,ExtB.refl _ _ _,(Nat.zero_le _),(fun s hs=>absurd hs (by simp))⟩ ?_
 rintro j t h11 n11 _ ⟨rfl,y11,Y11,hj,hall⟩
 have hj:j≤S.length:=hj
 have hall:∀s∈S.take j,(s.length:Int)≤m:=hall
 refine zG ?_
 by_cases q12:(j:Int)<(lx:Int)
 ·refine zG ?_
  obtain ⟨d13,g13⟩:∃d,(S)[j]?=some d:=⟨_,List.getElem?_eq_getElem zo⟩
  obtain ⟨k13,o13,e13,m13,r13,t13⟩:=wm ix g13
  refine sI e13 r13 ?_
  refine sL t13 m13 0 ?_
  refine st_I (ik:=.i64) (a:=(d13.length:Int)) R5 ?_
  refine zG ?_
  by_cases q14:(d13.length:Int)>m
  ·refine zf ?_
   exact zno fun hq=>by have:=hq _ (List.mem_of_getElem? g13);omega
  refine zG ?_
  exact sK (j+1) ⟨rfl,zo,Y11,(by show j+1≤S.length;omega),(ke hall g13 zo)⟩
 refine zf ?_
 exact zye (by have hq:=hall;rw [List.take_of_length_le zo] at hq;exact hq)
theorem zbc (k:Nat){h:HF}{n:Nat}{al:Option Addr}{ll cl:Nat}{LS:List (List (List UInt8))}(il:SLS h n (.slice al ll cl) LS)(hb:LS.length<100000000):VF (cal (k+2)) 4 [.slice al ll cl] h n fun v=>∃b:Bool,v=.bool b∧(b=true→∀S∈LS,S.length≤10∧∀s∈S,(s.length:Int)≤12):=by
 have ll1:=il.len
 refine zB (fn:=Tryz.f4) R4 ?_
 refine zG ?_
 refine sF (α:=Nat) (fun z=>[(0,.slice al ll cl),(3,.int .i64 (z:Int))]) (fun z h' n' w'=>w'=[]∧n≤n'∧ExtB n [] h h'∧z≤LS.length∧∀S∈LS.take z,S.length≤10∧∀s∈S,(s.length:Int)≤12) (fun z=>LS.length-z) 0 ⟨rfl,Nat.le_refl _,ExtB.refl _ _ _,(Nat.zero_le _),(fun s hs=>absurd hs (by simp))⟩ ?_
 rintro j t h11 n11 _ ⟨rfl,y11,Y11,hj,hall⟩
 have hj:j≤LS.length:=hj
 have hall:∀S∈LS.take j,S.length≤10∧∀s∈S,(s.length:Int)≤12:=hall
 refine zG ?_
 by_cases q12:(j:Int)<(ll:Int)
 ·refine zG ?_
  obtain ⟨d13,g13⟩:∃d,(LS)[j]?=some d:=⟨_,List.getElem?_eq_getElem zo⟩
  obtain ⟨k13,o13,a13,l13,c13,e13,m13,r13,t13,i13⟩:=SLS.at il g13
  have la13:=wz i13
  refine sI e13 r13 ?_
  refine sL t13 m13 0 ?_
  refine zG ?_
  by_cases q14:(l13:Int)>10
  ·refine zf ?_
   exact ⟨_,rfl,fun hq=>(by cases hq)⟩
  refine zG ?_
  refine sI e13 r13 ?_
  refine sL t13 m13 0 ?_
  refine sC ((zg9 _ (12) (i13.x zx) zo).cx) ?_
  rintro _ h15 n15 ⟨b15,rfl,bq15⟩ y15 x15
  rcases bvs bq15 with ⟨rfl,q15⟩|⟨rfl,q15⟩
  ·refine zf ?_
   exact ⟨_,rfl,fun hq=>(by cases hq)⟩
  refine zG ?_
  exact sK (j+1) ⟨rfl,zo,zy,(by show j+1≤LS.length;omega),(ke hall g13 ⟨zo,q15⟩)⟩
 refine zf ?_
 exact ⟨_,rfl,fun _=>by have hq:=hall;rw [List.take_of_length_le zo] at hq;exact hq⟩
section
variable {x y:Rat}{p q r:Nat}
theorem zY (x:Rat):zk (ratT x)=x:=tI rfl
theorem addR (k:Nat){h:HF}{n:Nat}(g:GG h n)(sx:Sz p x)(sy:Sz q y)(hp:p≤1890)(hq:q≤1890)(hpq:p+q+1≤2496){z:Rat}(hz:x+y=z)(sr:Sz r z)(hr:r≤1920):VF (cal (k+11)) 6 [.string ⟨⟨ratT x⟩⟩,.string ⟨⟨ratT y⟩⟩] h n fun v=>v=.string ⟨⟨ratT z⟩⟩:=by
 have:=addS k g (a:=ratT x) (b:=ratT y) (TL.ratT (sx.mono hp)) (TL.ratT (sy.mono hq)) (p:=p) (q:=q) (r:=r) (by rw [zY];exact sx) (by rw [zY];exact sy) hpq (by rw [zY,zY,hz];exact sr) hr
 rw [zY,zY,hz] at this
 exact this
theorem mulR (k:Nat){h:HF}{n:Nat}(g:GG h n)(sx:Sz p x)(sy:Sz q y)(hp:p≤1890)(hq:q≤1890)(hpq:p+q≤1900):VF (cal (k+11)) 9 [.string ⟨⟨ratT x⟩⟩,.string ⟨⟨ratT y⟩⟩] h n fun v=>v=.string ⟨⟨ratT (x*y)⟩⟩:=by
 have:=mulS k g (a:=ratT x) (b:=ratT y) (TL.ratT (sx.mono hp)) (TL.ratT (sy.mono hq)) (p:=p) (q:=q) (r:=p+q) (by rw [zY];exact sx) (by rw [zY];exact sy) zo (by rw [zY,zY];exact sx.mul sy) zo
 rw [zY,zY] at this
 exact this
end
theorem Txt.rat {a:Nat}{q:Rat}(h:Txt a (ratT q)):Sz a q:=by
 have:=h.2
 rwa [zY] at this
theorem cg:ratT 0=[48]:=rfl
end
section
variable {q:Rat}
theorem ci (q:Rat):∃d r,decT q.num.natAbs++(if q.den=1 then [] else 47::decT q.den)=d::r∧(48:UInt8)≤d:=by
 obtain ⟨h1,_,h3⟩:=xW q.num.natAbs
 cases h:decT q.num.natAbs with
 |nil=>exact absurd h h3
 |cons d r=>
  refine ⟨d,_,rfl,?_⟩
  have:=(h1 d (by rw [h];exact List.mem_cons_self)).1
  exact this
theorem ot (h:q.num<0):ratT q=45::ratT (-q):=by
 unfold Go.Proofs.YtdcfbgmbaniglaaGreatDoor.ratT
 rw [if_pos h,Rat.neg_num,Rat.neg_den,Int.natAbs_neg,if_neg (show ¬ -q.num<0 by omega)]
 rfl
theorem jV (h:0<q.num):(∃d r,ratT q=d::r∧(48:UInt8)≤d)∧ratT (-q)=45::ratT q:=by
 constructor
 ·obtain ⟨d,r,h1,h2⟩:=ci q
  refine ⟨d,r,?_,h2⟩
  unfold Go.Proofs.YtdcfbgmbaniglaaGreatDoor.ratT
  rw [if_neg zo]
  exact h1
 have h2:(-q).num<0:=by rw [Rat.neg_num];omega
 have:=ot h2
 rwa [Rat.neg_neg] at this
theorem zbm (q:Rat):(ratT q==[48])=decide (q=0):=by
 by_cases h:q=0
 ·subst h
  rfl
 rw [decide_eq_false h]
 cases hb:(ratT q==[48]) with
 |false=>rfl
 |true=>exact absurd (jW ((eq_of_beq hb).trans cg.symm)) h
end
section
theorem zde (hN:NW L)(hv:wv L=dval s)(hs:AllD s)(hl:s.length≤19):L.length≤1:=by
 refine hN.len_le ?_
 rw [hv]
 have:=uf hs
 have h2:=oA hl
 omega
theorem zdd (hN:NW L)(hv:wv L=dval s)(hs:AllD s)(hl:s.length≤100):L.length<1000000:=by
 have:=hN.len_pow (i:=s.length) (by rw [hv];exact uf hs)
 omega
theorem dk (k:Nat)(hG:GK.G h)(hn:20≤n)(s:List UInt8)(hs:s.length≤40)(ho:GK.orc 18 [.string ⟨⟨s⟩⟩]=none):VF (cal (k+7)) 18 [.string ⟨⟨s⟩⟩] h n fun v=>∃b:Bool,v=.bool b∧(b=true↔wi s):=by
 refine zB (fn:=Tryz.f18) ⟨ho,rfl,rfl,rfl⟩ ?_
 refine zN ?_
 repeat refine zR ?_
 refine zN ?_
 refine zM ?_
 refine zw _ R5 (re (k+1) h n s zo) ?_
 rintro _ h0 n0 _ ⟨rfl,hn0,hx0,x,y,ok,rfl,hok⟩
 repeat refine zR ?_
 refine yR R5 ?_
 refine zX [.int .i64 x,.int .i64 y] R8 (zg _ _ _) rfl (by show 3*n≤3*n0+2;omega) ?_
 rw [wu]
 generalize hh:upd h0 (3*n0+2) _=h1
 have hx1:Ext n h h1:=fun b hb=>by rw [←hh,zj zo,hx0 b hb]
 clear hh
 repeat refine zR ?_
 refine zN ?_
 repeat refine zR ?_
 refine zN ?_
 cases ok with
 |true=>
  rw [ze rfl]
  refine zN ?_
  repeat refine zR ?_
  refine zN ?_
  obtain ⟨q,hq,_⟩:=hok rfl
  exact retF _ rfl (zi rfl) R2 ⟨true,rfl,fun _=>⟨q,hq⟩,fun _=>rfl⟩
 |false=>
 rw [za rfl]
 refine zN ?_
 clear hok
 refine zM ?_
 refine zw _ R5 (pZ (k+2) h1 (n0+1) s zo) ?_
 rintro _ h1s n2 _ ⟨rfl,hn2,hx1s,rfl⟩
 replace hx1:Ext n h h1s:=fun b hb=>(hx1s b zo).trans (hx1 b hb)
 have hnum:=tL s
 have hfrm:(spl s).2.2=true→Frm s (spl s).1 (spl s).2.1:=fun e=>uP (by rw [←e])
 generalize (spl s).1=M at hfrm hnum ⊢
 generalize (spl s).2.1=D at hfrm hnum ⊢
 generalize (spl s).2.2=ok at hfrm hnum ⊢
 generalize hmi:zP s=mi
 repeat refine zR ?_
 refine yR R5 ?_
 refine zX [.bool mi,.string ⟨⟨M⟩⟩,.string ⟨⟨D⟩⟩] R8 (zg _ _ _) rfl (by show 3*n≤3*n2+2;omega) ?_
 rw [wu]
 generalize hh:upd h1s (3*n2+2) _=h2
 have hr5:∃e,h2 (3*n2+2)=some (.row [.bool mi,.string ⟨⟨M⟩⟩,.string ⟨⟨D⟩⟩] e):=⟨_,by rw [←hh,zg]⟩
 have hx2:Ext n h h2:=fun b hb=>by rw [←hh,zj zo,hx1 b hb]
 obtain ⟨e5,hr5⟩:=hr5
 clear hh
 repeat refine zR ?_
 refine zN ?_
 refine zM ?_
 cases ok with
 |false=>
  repeat refine zR ?_
  refine zN ?_
  rw [ze rfl]
  refine zN ?_
  repeat refine zR ?_
  refine zN ?_
  exact retF _ rfl (zi rfl) R2 ⟨false,rfl,(fun h=>by cases h),fun h=>absurd (hnum.1 h).1 (by simp)⟩
 |true=>
 have hf:=hfrm rfl
 clear hfrm
 repeat refine zR ?_
 refine zO R6 hr5 (v:=.string ⟨⟨D⟩⟩) R2 ?_
 cases D with
 |nil=>
  repeat refine zR ?_
  refine zN ?_
  rw [ze rfl]
  refine zN ?_
  repeat refine zR ?_
  refine zN ?_
  exact retF _ rfl (zi rfl) R2 ⟨true,rfl,fun _=>hnum.2 ⟨rfl,.inl rfl⟩,fun _=>rfl⟩
 |cons u D=>
 have hlen:M.length+(u::D).length+1≤40:=by
  have:=congrArg List.length hf.eq
  have h2:(if u::D=[] then [] else (47:UInt8)::u::D).length=(u::D).length+1:=by rw [if_neg (by simp)];rfl
  rw [List.length_append,List.length_append,h2] at this
  omega
 generalize hD:u::D=DD at*
 have hD0:DD≠[]:=by rw [←hD];simp
 repeat refine zR ?_
 refine zN ?_
 rw [za (by show Value.bool _=_;rw [←hD];rfl)]
 refine zN ?_
 have hG2:=vT hG hx2 hn
 refine zu [0,1,3,0,8,31,63,127,255] rfl ?_
 repeat refine zE ?_
 refine z9 R6 (zU rfl hr5 (v:=.string ⟨⟨M⟩⟩) R2) R2 ?_
 refine wV _ R7 (qn k h2 (n2+1) hf.dm zo) ?_
 rintro _ h3 n3 _ ⟨a3,l3,c3,L3,rfl,⟨rfl,hn3,hx3,hs3,hN3⟩,hv3⟩
 refine ⟨xo,hn3,?_⟩
 repeat refine zE ?_
 refine z9 R6 (zU rfl hr5 (v:=.string ⟨⟨DD⟩⟩) R2) ⟨(kr (by simp)),rfl⟩ ?_
 refine wV _ R7 (qn k h3 n3 hf.dd zo) ?_
 rintro _ h4 n4 _ ⟨a4,l4,c4,L4,rfl,⟨rfl,hn4,hx4,hs4,hN4⟩,hv4⟩
 refine ⟨xo,hn4,?_⟩
 have hx34:Ext n h h4:=fun b hb=>by rw [hx4 b zo,hx3 b zo,hx2 b hb]
 have h1w:L3.length≤1∨L4.length≤1:=by
  rcases Nat.lt_or_ge 19 M.length with hl|hl
  ·exact .inr (zde hN4 hv4 hf.dd zo)
  exact .inl (zde hN3 hv3 hf.dm hl)
 refine wV _ R7 (zb7 k (vT hG hx34 hn) zo (hs3.ext hx4 hn4) hs4 hN3 hN4 ⟨zdd hN3 hv3 hf.dm zo,zdd hN4 hv4 hf.dd zo⟩ h1w) ?_
 rintro _ h5 n5 _ ⟨a5,l5,c5,L5,rfl,⟨rfl,hn5,hx5,hs5,hN5⟩,hv5⟩
 refine ⟨xo,hn5,?_⟩
 refine ja _ R7 (iK (k+5) (neg:=false) hs5 hN5) ?_
 rintro _ rfl
 repeat refine zE ?_
 refine zN ?_
 refine retF _ rfl (zi rfl) R2 ⟨_,rfl,?_⟩
 rw [hv5,hv3,hv4,Bool.not_false,Bool.true_and,decide_eq_true_iff,hnum]
 exact ⟨fun h=>⟨rfl,.inr h⟩,fun h=>h.2.resolve_left hD0⟩
end
theorem np (k:Nat){h:HF}(hG:GK.G h){n:Nat}(hn:20≤n)(s:List UInt8)(hs:s.length≤40):VF (cal (k+7)) 18 [.string ⟨⟨s⟩⟩] h n fun v=>∃b:Bool,v=.bool b∧(b=true↔wi s):=dk k hG hn s hs rfl
section
variable {s:List UInt8}{h:HF}{n:Nat}{q:Rat}
def absQ (q:Rat):Rat:=if q.num<0 then -q else q
theorem zcw (h:wi s):yw s=ratT (absQ (zk s)):=by
 obtain ⟨q,rfl⟩:=h
 rw [zY]
 unfold absQ
 by_cases hn:q.num<0
 ·rw [if_pos hn,ot hn]
  rfl
 rw [if_neg hn]
 have hm:zP (ratT q)=false:=by
  by_cases h0:q=0
  ·subst h0;rfl
  have hne:q.num≠0:=fun e=>h0 (Rat.num_eq_zero.1 e)
  obtain ⟨⟨d,r,e1,hd⟩,_⟩:=jV (q:=q) zo
  rw [e1]
  show (d==45)=false
  cases hb:(d==45) with
  |false=>rfl
  |true=>rw [eq_of_beq hb] at hd;exact absurd hd zd
 unfold yw
 rw [hm]
 rfl
theorem lJ (k:Nat)(h:HF)(n:Nat)(s:List UInt8):VF (cal (k+2)) 51 [.string ⟨⟨s⟩⟩,.string ⟨⟨[45]⟩⟩] h n fun v=>v=.string ⟨⟨yw s⟩⟩:=by
 refine zB (fn:=Tryz.f51) R4 ?_
 refine zG ?_
 refine sC (mE k h n s).cx ?_
 rintro _ h1 n1 rfl y1 x1
 by_cases hm:zP s=true
 ·rw [hm]
  refine zG ?_
  refine st_I (ik:=.i64) (a:=1) R5 ?_
  refine vt (s:=s) (j:=1) R8 (mq hm) ?_
  refine zf ?_
  show Value.string ⟨⟨s.drop 1⟩⟩=_
  unfold yw
  rw [if_pos hm]
 rw [Bool.eq_false_iff.2 hm]
 refine zG ?_
 refine zf ?_
 show Value.string ⟨⟨s⟩⟩=_
 unfold yw
 rw [if_neg hm]
theorem fa (k:Nat)(h:HF)(n:Nat)(s:List UInt8):VF (cal (k+3)) 19 [.string ⟨⟨s⟩⟩,.string ⟨⟨[45]⟩⟩] h n fun v=>v=.string ⟨⟨yw s⟩⟩:=by
 refine zB (fn:=Tryz.f19) R4 ?_
 refine zG ?_
 refine sC (lJ k h n s).cx ?_
 rintro _ h1 n1 rfl y1 x1
 refine zf ?_
 rfl
theorem absT (k:Nat)(g:GG h n)(hs:s.length≤40):VF (cal (k+8)) 7 [.string ⟨⟨s⟩⟩] h n fun v=>v=.string ⟨⟨ratT (absQ (zk s))⟩⟩:=by
 refine zB (fn:=Tryz.f7) R4 ?_
 refine zG ?_
 refine sC (np k g.1 g.2 s hs).cx ?_
 rintro _ h1 n1 ⟨b1,rfl,bq1⟩ y1 x1
 rcases bvs bq1 with ⟨rfl,q1⟩|⟨rfl,q1⟩
 ·refine zG ?_
  refine zf ?_
  rw [xV q1]
  rfl
 refine zG ?_
 refine sC (fa (k+4) h1 n1 s).cx ?_
 rintro _ h2 n2 rfl y2 x2
 refine zf ?_
 show Value.string ⟨⟨yw s⟩⟩=_
 rw [zcw q1]
theorem ziv (k:Nat)(g:GG h n)(hs:(ratT q).length≤40):VF (cal (k+8)) 8 [.string ⟨⟨ratT q⟩⟩] h n fun v=>∃s:Int,v=.int .i64 s∧(s= -1∧q.num<0∨s=0∧q.num=0∨s=1∧0<q.num):=by
 refine zB (fn:=Tryz.f8) R4 ?_
 refine zG ?_
 refine sQ (decide (q=0)) (zbm q) ?_
 by_cases h0:q=0
 ·subst h0
  refine zG ?_
  refine zf ?_
  exact ⟨0,rfl,.inr (.inl ⟨rfl,rfl⟩)⟩
 rw [decide_eq_false h0]
 refine zG ?_
 refine sC (np k g.1 g.2 (ratT q) hs).cx ?_
 rintro _ h1 n1 ⟨b1,rfl,bq1⟩ y1 x1
 obtain rfl:=bq1.2 ⟨q,rfl⟩
 refine zG ?_
 have hn0:q.num≠0:=fun e=>h0 (Rat.num_eq_zero.1 e)
 by_cases hneg:q.num<0
 ·rw [ot hneg]
  refine st_I (ik:=.u8) (a:=45) R5 ?_
  refine st_B (a:=true) R5 ?_
  refine zf ?_
  exact ⟨-1,rfl,.inl ⟨rfl,hneg⟩⟩
 obtain ⟨⟨d,r,e1,hd⟩,e2⟩:=jV (q:=q) zo
 rw [e1]
 have hd':d≠45:=fun e=>by rw [e] at hd;exact absurd hd zd
 refine st_I (ik:=.u8) (a:=(d.toNat:Int)) R5 ?_
 have hd2:(d.toNat:Int)≠45:=fun e=>hd' (UInt8.toNat_inj.1 (by show d.toNat=45;omega))
 refine zf ?_
 exact ⟨1,rfl,.inr (.inr ⟨rfl,zo⟩)⟩
end
section
variable {s:List UInt8}{q:Rat}{P:Nat}
noncomputable def atQ (l:List (List UInt8))(i:Nat):Rat:=((l[i]?).map zk).getD 0
section
variable (O L W:List (List UInt8))
noncomputable def wQ (i:Nat):Rat:=absQ (atQ W i)
noncomputable def uQ (i:Nat):Rat:=atQ L i+wQ W i
noncomputable def eQ (i:Nat):Rat:=if (atQ O i).num<0 then uQ L W i else atQ L i
noncomputable def sumE:Nat→Rat
 |0=>0
 |m+1=>sumE m+atQ O m*eQ O L W m
noncomputable def txF (f:Nat→Rat)(m:Nat):List (List UInt8):=(List.range m).map fun i=>ratT (f i)
noncomputable def pE (m:Nat):LPD:=⟨txF (atQ O) m,[],txF (atQ L) m,txF (uQ L W) m⟩
end
section
variable {O L W:List (List UInt8)}{i m:Nat}
theorem wN {f:Nat→Rat}:(txF f m).length=m:=by unfold txF;rw [List.length_map,List.length_range]
theorem pR {f:Nat→Rat}:txF f m++[ratT (f m)]=txF f (m+1):=by unfold txF;rw [List.range_succ,List.map_append];rfl
theorem dp {f:Nat→Rat}(h:i<m):(txF f m)[i]?=some (ratT (f i)):=by unfold txF;rw [List.getElem?_map,List.getElem?_range h];rfl
theorem zad {l:List (List UInt8)}(h:l[i]?=some s):atQ l i=zk s:=by unfold atQ;rw [h];rfl
theorem zel {l:List (List UInt8)}(h:¬i<l.length):atQ l i=0:=by unfold atQ;rw [List.getElem?_eq_none zo];rfl
theorem zgn (q:Rat):0≤absQ q:=by
 unfold absQ
 split
 ·rename_i h
  exact Rat.num_nonneg.1 (by rw [Rat.neg_num];omega)
 rename_i h
 exact Rat.num_nonneg.1 zo
theorem Sz.abs {a:Nat}(h:Sz a q):Sz a (absQ q):=by
 unfold absQ
 split
 ·exact h.neg
 exact h
def Sh12 (l:List (List UInt8)):Prop:=∀s∈l,(s.length:Int)≤12
theorem Sh12.z {l:List (List UInt8)}(h:Sh12 l)(i:Nat):Sz 40 (atQ l i):=by
 unfold atQ
 cases hs:l[i]? with
 |none=>exact Sz.zero 40 zd
 |some s=>exact (zg1 (h s (List.mem_of_getElem? hs))).2
theorem Sz.len {a:Nat}(h:Sz a q)(m:Nat)(ha:2^a≤10^m)(h1:1≤m):(ratT q).length≤2*m+2:=by
 have key:∀V,V<2^a→(decT V).length≤m:=fun V hV=>by
  unfold decT
  split
  ·exact h1
  rw [List.length_map,oT]
  exact xP m V (Nat.lt_of_lt_of_le hV ha)
 have h1:=key _ h.1
 have h2:=key _ h.2
 unfold Go.Proofs.YtdcfbgmbaniglaaGreatDoor.ratT
 simp only [List.length_append]
 split<;>split<;>simp<;>omega
theorem lH {f:Nat→Rat}(h:∀i,Sz 81 (f i)):∀s∈txF f m,Txt 81 s∧wi s:=fun s hs=>by
 obtain ⟨i,_,rfl⟩:=List.mem_map.1 hs
 refine ⟨⟨?_,by rw [zY];exact h i⟩,⟨_,rfl⟩⟩
 have:=(h i).len 30 zd zd
 omega
section
variable (hO:Sh12 O)(hL:Sh12 L)(hW:Sh12 W)
include hL hW in
theorem uQ_z (i:Nat):Sz 81 (uQ L W i):=(hL.z i).add (hW.z i).abs
include hL hW in
theorem eQ_z (i:Nat):Sz 81 (eQ O L W i):=by
 unfold eQ
 split
 ·exact uQ_z hL hW i
 exact (hL.z i).mono zd
include hO hL hW in
theorem zdj (m:Nat):Sz (1+m*122) (sumE O L W m):=by
 induction m with
 |zero=>exact Sz.zero _ zd
 |succ m ih=>exact (ih.add ((hO.z m).mul (eQ_z hL hW m))).mono zo
include hO hL hW in
theorem zhp (h1:1≤m)(h2:m≤5):BoxP (pE O L W m) 81:=by
 have z1:=lH (m:=m) fun i=>(hO.z i).mono (show 40≤81 by decide)
 have z2:=lH (m:=m) fun i=>(hL.z i).mono (show 40≤81 by decide)
 have z3:=lH (m:=m) fun i=>uQ_z hL hW i
 have l1:(pE O L W m).obj.length=m:=wN
 have l2:(pE O L W m).lower.length=m:=wN
 have l3:(pE O L W m).upper.length=m:=wN
 refine ⟨⟨zo,zo,zo,zo,Nat.zero_le _,fun s hs=>(z1 s hs).2,fun j lo hi e1 e2=>?_,fun r hr=>absurd hr List.not_mem_nil⟩,⟨fun s hs=>(z1 s hs).1,fun s hs=>(z2 s hs).1,fun s hs=>(z3 s hs).1,fun r hr=>absurd hr List.not_mem_nil,zo,by show 0<_;omega,zo,zo⟩,rfl,fun s hs=>(z2 s hs).2,fun s hs=>(z3 s hs).2⟩
 have hj:j<m:=by have:=(List.getElem?_eq_some_iff.1 e1).1;omega
 have e1:(txF (atQ L) m)[j]?=some lo:=e1
 have e2:(txF (uQ L W) m)[j]?=some hi:=e2
 rw [dp hj] at e1 e2
 cases e1
 cases e2
 refine ⟨.inr ⟨_,rfl⟩,.inr ⟨_,rfl⟩,.inr (.inr ?_)⟩
 rw [zY,zY]
 have:=(Rat.add_le_add_left (c:=atQ L j)).2 (zgn (atQ W j))
 rw [Rat.add_zero] at this
 exact this
end
theorem zho:(pE O L W m).obj.map zk=(List.range m).map (atQ O):=by
 show (txF (atQ O) m).map zk=_
 unfold txF
 rw [List.map_map]
 exact List.map_congr_left fun i _=>zY _
theorem zi7 (h:i<m):loA (xQ (pE O L W m)) i=atQ L i∧hiA (xQ (pE O L W m)) i=uQ L W i:=by
 have e:=qO (p:=pE O L W m) (show (txF (atQ L) m)[i]?=_ from dp h) (show (txF (uQ L W) m)[i]?=_ from dp h)
 rw [iF e,bl e]
 exact ⟨zY _,zY _⟩
theorem zax {zs:List Int}{s:Rat}(h:ScR ((pE O L W m).obj.map zk) P zs s):dotR ((pE O L W m).obj.map zk) (vaM (xQ (pE O L W m)) zs (xQ (pE O L W m)).length)=sumE O L W m:=by
 have hl:(xQ (pE O L W m)).length=m:=by
  unfold xQ
  rw [List.length_zipWith]
  show Nat.min (txF (atQ L) m).length (txF (uQ L W) m).length=m
  rw [wN,wN]
  exact Nat.min_self m
 have hv:vaM (xQ (pE O L W m)) zs (xQ (pE O L W m)).length=(List.range m).map (eQ O L W):=by
  refine List.ext_getElem? fun i=>?_
  by_cases hi:i<m
  ·rw [vW zo,List.getElem?_map,List.getElem?_range hi]
   show _=some (eQ O L W i)
   obtain ⟨e1,e2⟩:=zi7 (O:=O) (L:=L) (W:=W) hi
   rw [e1,e2]
   have hq:((pE O L W m).obj.map zk)[i]?=some (atQ O i):=by rw [zho,List.getElem?_map,List.getElem?_range hi];rfl
   obtain ⟨z,gz⟩:∃z,zs[i]?=some z:=⟨_,List.getElem?_eq_getElem (by rw [h.len,List.length_map];show i<(txF (atQ O) m).length;rw [wN];exact hi)⟩
   have hz:=h.eq i _ z hq gz
   have hz0:(zs[i]?).getD 0=z:=by rw [gz];rfl
   rw [hz0]
   unfold eQ
   have key:0≤z↔0≤(atQ O i).num:=by
    rw [Rat.num_nonneg,←Rat.intCast_nonneg,hz]
    refine ⟨fun h1=>Rat.not_lt.1 fun h2=>?_,fun h1=>Rat.mul_nonneg (Rat.le_of_lt h.pos) h1⟩
    have h3:0<s* -atQ O i:=Rat.mul_pos h.pos (by
     have:=Rat.neg_lt_neg h2
     rwa [Rat.neg_zero] at this)
    rw [Rat.mul_neg] at h3
    have h4:=Rat.neg_lt_neg h3
    rw [Rat.neg_neg,Rat.neg_zero] at h4
    exact Rat.not_lt.2 h1 h4
   by_cases h0:z<0
   ·rw [if_pos ⟨zo,h0⟩,if_pos zo]
   rw [if_neg (fun e=>h0 e.2),if_neg (fun e=>by omega)]
  rw [List.getElem?_eq_none (by rw [yN];omega),List.getElem?_eq_none (by rw [List.length_map,List.length_range];omega)]
 rw [hv,zho]
 clear hv h hl
 induction m with
 |zero=>rfl
 |succ m ih=>
  rw [List.range_succ,List.map_append,List.map_append]
  show dotR (_++[atQ O m]) (_++[eQ O L W m])=_
  rw [mO (by rw [List.length_map,List.length_map]),ih]
  rfl
end
end
section
set_option maxRecDepth 100000
variable {b bytes j len lo n0 size sz u:Nat}{W:List Nat}{E:Env}{e sT xT:TypeId}{v z:Value}{c new:List Value}{D:Type}{x:Operand}{a ao:Option Addr}{ss:List (List UInt8)}{s:List UInt8}
theorem zfe {e:Nat}{g:HF}{r:List (Nat×HF×List Nat)}(h:∀c∈W,c≠b)(k:xp u b r=true):xp u b ((e,g,W)::r)=true:=by
 have hm:memN b W=false:=by
  clear k
  induction W with
  |nil=>rfl
  |cons c W ih=>
   unfold memN
   cases he:Nat.beq b c with
   |true=>exact absurd (Nat.eq_of_beq_eq_true he).symm (h c List.mem_cons_self)
   |false=>exact ih fun c hc=>h c (List.mem_cons_of_mem _ hc)
 unfold xp
 rw [hm,Bool.not_false,Bool.or_true]
 exact k
theorem zff {m c:Nat}{r:List (Nat×Nat)}(h:c≠b)(k:uE m b r=true):uE m b ((j,c)::r)=true:=by
 have hm:Nat.beq b c=false:=by
  cases he:Nat.beq b c with
  |true=>exact absurd (Nat.eq_of_beq_eq_true he).symm h
  |false=>rfl
 unfold uE
 rw [hm,Bool.not_false,Bool.or_true]
 exact k
theorem jo {h:HF}{n:Nat}{m:Nat}{x:Value}(hu:E.und sT=some (.slice e))(hi:E.inf e=some (size,bytes,z))(hz:(zl z).length=size)(h1:1≤size∧1≤bytes)(hg:Gro h lo n e size v len c)(hx:argS h size x m new)(hm:1≤m)(hb:(len+m)*bytes≤1099511627776)(hl:new.length=m*size)(ho:ones new=true)(hlo:lo≤n):
  ∃v' h' W,yD E h n sT v x=some (.val v' h' (n+1) W)∧Gro h' lo (n+1) e size v' (len+m) (c++new)∧Ext lo h h'∧Keep v n h h'∧(∀b∈W,3*lo≤b∧gro b=true)∧yO n v':=by
 cases hg with
 |nil=>
  refine ⟨_,_,_,append_nil hu hi hz h1.1 h1.2 hx hm (by rw [Nat.zero_add] at hb;exact hb),?_,fun b hb=>zj zo,fun b hb _=>zj zo,fun b hb=>absurd hb List.not_mem_nil,by show 3*n≤3*n+1;omega⟩
  rw [Nat.zero_add]
  exact .at_ (ub n) zo zo (zg _ _ _) hl ho
 |at_ hg hlo2 hb2 hr hl2 ho2=>
  refine ⟨_,_,_,uD hu hi hz h1.1 h1.2 hx hm hb hg hr hl2 (yX ho2 ho) hl,?_,fun b hb=>?_,fun b hb hne=>?_,fun b hb=>?_,by show 3*n≤3*n+1;omega⟩
  ·exact .at_ (ub n) zo zo (zg _ _ _) (by rw [List.length_append,hl2,hl,Nat.add_mul]) (yX ho2 ho)
  ·rw [zj zo,zj zo]
  ·rw [zj zo,zj (fun e=>hne 0 len len (by rw [e]))]
  obtain rfl:=List.mem_singleton.1 hb;exact ⟨zo,hg⟩
section
variable {X:CtxF}{ops r:List Oper}{ms:List Nat}{i m:Nat}{t:TF}{h:HF}{n:Nat}{w:List Nat}{al ld:List (Nat×Nat)}{ef:List (Nat×HF×List Nat)}{Q:SV→Prop}{o:Oper}{d:Tmp}
theorem dGB {P:List Value→D→HF→Nat→Prop}{s:Operand}{ds:List D}{q:D}(c:List Value)(g:GR sz P lo h n e v ds)(kp:KP sz P)(p:P c q h n)(hx:argS h sz (evF t x) 1 c)(hlen:ds.length<1000000)(hlo:lo≤n)(hld:∀W:List Nat,(∀b∈W,3*lo≤b)→z0 m W ld=true)
  (k:∀v' h' W,(∀b∈W,3*lo≤b∧gro b=true)→GR sz P lo h' (n+1) e v' (ds++[q])→Tr n h (n+1) h'→Exa lo h h'→(∀b,b<3*n→¬BkOf v b→h' b=h b)→(∀b,BkOf v' b→3*n≤b)→ED X ops r ms (i+1) ⟨⟨upd t d v',h',n+1,addW n0 W w⟩,al,ld,(i,h,W)::ef⟩ Q)
  (hw:zh ops t o=true:=by exact rfl)(hd:o.dst=some d:=by exact rfl)(hn:zn X.nt (some d)=true:=by exact rfl)(ho:o.op=.call {callee:=.builtin .append,args:=#[s,x],argTypes:=#[sT,xT]}:=by exact rfl)(hv:evF t s=v:=by exact rfl)(hxT:(match X.E.und xT with|some (.int _)=>false|none=>false|_=>true)=true:=by exact rfl)(hu:X.E.und sT=some (.slice e):=by exact rfl)(hi:X.E.inf e=some (sz,bytes,z):=by exact rfl)(hz:(zl z).length=sz:=by exact rfl)(h1:1≤sz∧1≤bytes∧bytes≤1000:=by decide)(g1:xc m ef=true:=by exact rfl)(g2:xA m al=true:=by exact rfl)(hX:X.n0=n0:=by exact rfl):ED X ops (o::r) (m::ms) i ⟨⟨t,h,n,w⟩,al,ld,ef⟩ Q:=by
 have hg:=g
 obtain ⟨C,gr,rc,nu⟩:=g
 subst hv
 obtain ⟨c1,c2,c3⟩:=kp.c p
 have hb:(ds.length+1)*bytes≤1099511627776:=Nat.le_trans (Nat.mul_le_mul (show ds.length+1≤1000000 by omega) h1.2.2) zd
 obtain ⟨v',h',W,h2,h3,h4,h6,h5,h7⟩:=jo hu hi hz ⟨h1.1,h1.2.1⟩ gr hx (Nat.le_refl _) hb (by rw [Nat.one_mul];exact c1) c3 hlo
 refine mN hw hd hn ho hxT h2 g1 g2 (hld W fun b hb=>(h5 b hb).1) zs ?_
 rw [hX]
 have hk:∀b,b<3*n→¬BkOf (evF t s) b→h' b=h b:=fun b hb hn=>h6 b hb fun o l c e=>hn ⟨o,l,c,e⟩
 have hT:Tr n h (n+1) h':=⟨Nat.le_succ _,fun b hb=>by
  by_cases hB:BkOf (evF t s) b
  ·exact .inr (hg.bk b hB).2.2.2
  ·exact .inl (hk b hb hB)⟩
 refine k v' h' W h5 ⟨C++c,by rw [List.length_append];exact h3,(rc.mono fun _ _ r=>kp.t r hT).snoc c1 (kp.t p hT),by rw [List.all_append,nu,c2];rfl⟩ hT ⟨h4⟩ hk fun b ⟨o,l,cc,e⟩=>?_
 subst e
 exact h7
end
theorem GR.strs {n L:Nat}{h:HF}(g:GR 1 strP lo h n e (.slice a L L) ss):Sl h n 1 (.slice a L L) (Go.Proofs.YtdcfbgmbaniglaaGreatDoor.strs ss):=by
 obtain ⟨C,s,r⟩:=g.rs
 exact r.strsE▸s
theorem addZ (k:Nat){h:HF}{n:Nat}(g:GG h n)(hs:(s.length:Int)≤12):VF (cal (k+11)) 6 [.string ⟨⟨s⟩⟩,.string ⟨⟨[48]⟩⟩] h n fun v=>v=.string ⟨⟨ratT (zk s)⟩⟩:=by
 have e0:zk [48]=0:=tI cg
 have z:=(zg1 hs).2
 have:=addS k g (a:=s) (b:=[48]) (TL.of zo) (TL.of zd) (p:=40) (q:=1) (r:=40) z (by rw [e0];exact Sz.zero 1 zd) zo (by rw [e0,Rat.add_zero];exact z) zo
 rw [e0,Rat.add_zero] at this
 exact this
theorem simplexExtreme_ok (k:Nat){h:HF}{n:Nat}(g:GG h n){al aw:Option Addr}{co ll cl lw cw:Nat}{O L W:List (List UInt8)}(io:Sl h n 1 (.slice ao lo co) (strs O))(il:Sl h n 1 (.slice al ll cl) (strs L))(iw:Sl h n 1 (.slice aw lw cw) (strs W)):VF (cal (k+15)) 3 [.slice ao lo co,.slice al ll cl,.slice aw lw cw] h n fun v=>v=.bool true:=by
 have lo1:=wz io
 have ll1:=wz il
 have lw1:=wz iw
 refine zB (fn:=Tryz.f3) R4 ?_
 refine zG ?_
 by_cases q1:(lo:Int)<1
 ·refine zG ?_
  refine sC ((rX _ (g.x zx)).cx) ?_
  rintro _ h1 n1 rfl y1 x1
  refine zf ?_
  exact rfl
 refine zG ?_
 by_cases q2:(lo:Int)>5
 ·refine zG ?_
  refine sC ((rX _ (g.x zx)).cx) ?_
  rintro _ h1 n1 rfl y1 x1
  refine zf ?_
  exact rfl
 refine zG ?_
 refine wG [.slice ao lo co,.slice al ll cl,.slice aw lw cw] (l:=3) (c:=3) R5 ?_
 intro h1 p1 x1
 refine sC ((zbc _ (SLS.three p1 zo (io.x zx) (il.x zx) (iw.x zx)) (by show 3<100000000;omega)).cx) ?_
 rintro _ h2 n2 ⟨b2,rfl,m2⟩ y2 x2
 cases b2
 ·refine zG ?_
  refine sC ((rX _ (g.x zx)).cx) ?_
  rintro _ h3 n3 rfl y3 x3
  refine zf ?_
  exact rfl
 have m2:=m2 rfl
 have hO:Sh12 O:=(m2 O (by simp)).2
 have hL:Sh12 L:=(m2 L (by simp)).2
 have hW:Sh12 W:=(m2 W (by simp)).2
 refine zG ?_
 refine sT #[.slice none 0 0,.slice none 0 0,.slice none 0 0,.slice none 0 0] ?_
 refine sA ?_
 intro h3 p3 x3
 refine sS [.slice none 0 0,.slice none 0 0,.slice none 0 0,.slice none 0 0] ?_
 intro h4 p4 o4
 refine zG ?_
 have X4:Exo n h h4:=⟨(show Tx n h (n2+1) h4 from zx).2⟩
 obtain ⟨B,hB⟩:∃B,B=3*n2+2:=⟨_,rfl⟩
 have gB:gro B=false:=by rw [hB];exact zA _
 have n24:n+1≤n2:=y2
 rw [←hB] at p4 ⊢
 clear o4 p3 x3 x2 x1 p1 y2
 refine sF (α:=Nat×Option Addr×Option Addr×Option Addr) (fun z=>[(0,.slice ao lo co),(1,.slice al ll cl),(2,.slice aw lw cw),(7,.int .i64 (lo:Int)),(8,.pointer (some ⟨B,0,none⟩)),(9,.string ⟨⟨ratT (sumE O L W z.1)⟩⟩),(10,.int .i64 (z.1:Int))]) (fun z h' n' w'=>w'=[]∧n2+1≤n'∧Ext n h h'∧h' B=some (.row [.slice z.2.1 z.1 z.1,.slice none 0 0,.slice z.2.2.1 z.1 z.1,.slice z.2.2.2 z.1 z.1] 27)∧GR 1 strP n h' n' 9 (.slice z.2.1 z.1 z.1) (txF (atQ O) z.1)∧GR 1 strP n h' n' 9 (.slice z.2.2.1 z.1 z.1) (txF (atQ L) z.1)∧GR 1 strP n h' n' 9 (.slice z.2.2.2 z.1 z.1) (txF (uQ L W) z.1)∧(∀b,BkOf (.slice z.2.2.1 z.1 z.1) b→¬BkOf (.slice z.2.1 z.1 z.1) b)∧(∀b,BkOf (.slice z.2.2.2 z.1 z.1) b→¬BkOf (.slice z.2.1 z.1 z.1) b)∧(∀b,BkOf (.slice z.2.2.2 z.1 z.1) b→¬BkOf (.slice z.2.2.1 z.1 z.1) b)∧z.1≤lo) (fun z=>lo-z.1) (0,none,none,none) ⟨rfl,Nat.le_refl _,X4.go,p4,GR.nil,GR.nil,GR.nil,(fun b hb=>by obtain ⟨_,_,_,e⟩:=hb;cases e),(fun b hb=>by obtain ⟨_,_,_,e⟩:=hb;cases e),(fun b hb=>by obtain ⟨_,_,_,e⟩:=hb;cases e),Nat.zero_le _⟩ ?_
 rintro ⟨i,aO,aL,aU⟩ t h5 n5 _ ⟨rfl,y5,X5,p5,gO,gL,gU,djL,djU,djUL,hi⟩
 have y5:n2+1≤n5:=y5
 replace X5:Exo n h h5:=⟨X5⟩
 have p5:h5 B=some (.row [.slice aO i i,.slice none 0 0,.slice aL i i,.slice aU i i] 27):=p5
 have gO:GR 1 strP n h5 n5 9 (.slice aO i i) (txF (atQ O) i):=gO
 have gL:GR 1 strP n h5 n5 9 (.slice aL i i) (txF (atQ L) i):=gL
 have gU:GR 1 strP n h5 n5 9 (.slice aU i i) (txF (uQ L W) i):=gU
 have djL:∀b,BkOf (.slice aL i i) b→¬BkOf (.slice aO i i) b:=djL
 have djU:∀b,BkOf (.slice aU i i) b→¬BkOf (.slice aO i i) b:=djU
 have djUL:∀b,BkOf (.slice aU i i) b→¬BkOf (.slice aL i i) b:=djUL
 have hi:i≤lo:=hi
 have g5:GG h5 n5:=g.ext X5.go zo
 have io5:=io.ext (n':=n5) X5.go zo
 have il5:=il.ext (n':=n5) X5.go zo
 have iw5:=iw.ext (n':=n5) X5.go zo
 refine zG ?_
 by_cases q5:(i:Int)<(lo:Int)
 ·refine zG ?_
  obtain ⟨nO,gsO⟩:∃d,O[i]?=some d:=⟨_,List.getElem?_eq_getElem zo⟩
  obtain ⟨k6,o6,e6,m6,r6,t6⟩:=wm io5 gsO
  refine sI e6 r6 ?_
  refine sL t6 m6 0 ?_
  refine sC ((addZ _ g5 (hO nO (List.mem_of_getElem? gsO))).cx) ?_
  rw [←zad gsO]
  rintro _ h7 n7 rfl y7 x7
  refine st_T R4 rfl ?_
  obtain ⟨zL,hzL⟩:∃z:Rat,z=0:=⟨0,rfl⟩
  obtain ⟨zW,hzW⟩:∃z:Rat,z=0:=⟨0,rfl⟩
  refine st_T (s:=⟨⟨ratT zL⟩⟩) R4 (by rw [hzL];rfl) ?_
  refine st_T (s:=⟨⟨ratT zW⟩⟩) R4 (by rw [hzW];rfl) ?_
  refine zG ?_
  by_cases q6:(i:Int)<(ll:Int)
  refine zG ?_
  obtain ⟨nL,gsL⟩:∃d,L[i]?=some d:=⟨_,List.getElem?_eq_getElem zo⟩
  obtain ⟨k8,o8,e8,m8,r8,t8⟩:=wm il5 gsL
  refine sI e8 r8 ?_
  refine sL t8 m8 0 ?_
  refine sC ((addZ _ (g5.x zx) (hL nL (List.mem_of_getElem? gsL))).cx) ?_
  rw [←zad gsL]
  rintro _ h8 n8 rfl y8 x8
  refine zG ?_
  rotate_left
  obtain rfl:zL=atQ L i:=by rw [hzL,zel zo]
  refine zG ?_
  all_goals
   by_cases q7:(i:Int)<(lw:Int)
   refine zG ?_
   obtain ⟨nW,gsW⟩:∃d,W[i]?=some d:=⟨_,List.getElem?_eq_getElem zo⟩
   obtain ⟨k9,o9,e9,m9,r9,t9⟩:=wm iw5 gsW
   refine sI e9 r9 ?_
   refine sL t9 m9 0 ?_
   have hsW:=hW nW (List.mem_of_getElem? gsW)
   refine sC ((absT _ (g5.x zx) (s:=nW) zo).cx) ?_
   rw [←zad gsW]
   rintro _ h9 n9 rfl y9 x9
   refine zG ?_
   rotate_left
   obtain rfl:zW=wQ W i:=by unfold wQ;rw [hzW,zel zo];rfl
   refine zG ?_
  all_goals
   rename HF=>hM
   rename Nat=>nM
   have XM:Exo n5 h5 hM:=⟨(show Tx n5 h5 nM hM from zx).2⟩
   have yM:n5≤nM:=(show Tx n5 h5 nM hM from zx).1
   refine sC ((addR _ (g5.ext XM.go yM) (x:=atQ L i) (y:=wQ W i) (hL.z i) (hW.z i).abs zo zo zo (z:=uQ L W i) rfl (uQ_z hL hW i) zo).cx) ?_
   rintro _ h10 n10 rfl y10 x10
   have X10:Exo n5 h5 h10:=⟨fun c hc=>(x10 c zo).trans (XM.go c hc)⟩
   have p10:h10 B=some (.row [.slice aO i i,.slice none 0 0,.slice aL i i,.slice aU i i] 27):=(X10.go B zo).trans p5
   have n510:n5≤n10:=zo
   have gO10:=gO.ext (n':=n10) strP.kp X10.go n510
   have gL10:=gL.ext (n':=n10) strP.kp X10.go n510
   have gU10:=gU.ext (n':=n10) strP.kp X10.go n510
   have lO:(txF (atQ O) i).length=i:=wN
   have lL:(txF (atQ L) i).length=i:=wN
   have lU:(txF (uQ L W) i).length=i:=wN
   clear XM yM x10 y10
   refine zG ?_
   refine zu [0,1,0,4,15,0,32,0,128,511,0,1024,0,4096,16383,3199,65535,131071,262143,524287,1048575] rfl ?_
   refine zH ?_
   refine dMs [.string ⟨⟨ratT (atQ O i)⟩⟩] ?_
   intro h11 p11 x11
   refine dGB (n0:=n) (q:=ratT (atQ O i)) [.string ⟨⟨ratT (atQ O i)⟩⟩] (gO10.ext strP.kp x11 zs) strP.kp rfl (yC p11 R2) zo zo (fun W hW=>by (repeat (first|rfl|(refine rF rfl ?_)))) ?_
   intro v12 h12 W12 hW12 gO12 T12 E12 K12 F12
   obtain ⟨aO',rfl⟩:=gO12.shape (L:=i+1) (by rw [List.length_append,lO];rfl)
   have p12:h12 B=_:=(K12 B zo (gO.nbk gB)).trans ((x11 B zo).trans p10)
   have gL12:GR 1 strP n h12 (n10+1+1) 9 (.slice aL i i) (txF (atQ L) i):=(gL10.ext (n':=n10+1) strP.kp x11 zs).go strP.kp T12 fun b hb=>K12 b (by have:=(gL10.bk b hb).2.1;omega) (djL b hb)
   have gU12:GR 1 strP n h12 (n10+1+1) 9 (.slice aU i i) (txF (uQ L W) i):=(gU10.ext (n':=n10+1) strP.kp x11 zs).go strP.kp T12 fun b hb=>K12 b (by have:=(gU10.bk b hb).2.1;omega) (djU b hb)
   have p11B:=(x11 B zo).trans p10
   have nB:∀{W:List Nat},(∀b∈W,3*n≤b∧gro b=true)→∀c∈W,c≠B:=fun hW c hc e=>by have:=(hW c hc).2;rw [e,gB] at this;cases this
   refine zH ?_
   refine z9 R6 (zU rfl p11B R2) ⟨(zfe (nB hW12) rfl),(zff zo rfl)⟩ ?_
   refine zH ?_
   refine dMs [.string ⟨⟨ratT (atQ L i)⟩⟩] ?_
   intro h13 p13 x13
   refine dGB (n0:=n) (q:=ratT (atQ L i)) [.string ⟨⟨ratT (atQ L i)⟩⟩] (gL12.ext strP.kp x13 zs) strP.kp rfl (yC p13 R2) zo zo (fun W hW=>by (repeat (first|rfl|(refine rF rfl ?_)))) ?_
   intro v14 h14 W14 hW14 gL14 T14 E14 K14 F14
   obtain ⟨aL',rfl⟩:=gL14.shape (L:=i+1) (by rw [List.length_append,lL];rfl)
   have p14:h14 B=_:=(K14 B zo (gL.nbk gB)).trans ((x13 B zo).trans p12)
   have gO14:GR 1 strP n h14 (n10+1+1+1+1) 9 (.slice aO' (i+1) (i+1)) (txF (atQ O) i++[ratT (atQ O i)]):=(gO12.ext (n':=n10+1+1+1) strP.kp x13 zs).go strP.kp T14 fun b hb=>K14 b (by have:=(gO12.bk b hb).2.1;omega) (fun hL2=>by
    have h1:=F12 b hb
    have h2:=(gL10.bk b hL2).2.1
    omega)
   have gU14:GR 1 strP n h14 (n10+1+1+1+1) 9 (.slice aU i i) (txF (uQ L W) i):=(gU12.ext (n':=n10+1+1+1) strP.kp x13 zs).go strP.kp T14 fun b hb=>K14 b (by have:=(gU12.bk b hb).2.1;omega) (djUL b hb)
   refine zH ?_
   refine z9 R6 (zU rfl p11B R2) ⟨(zfe (nB hW14) (zfe (nB hW12) rfl)),(zff zo (zff zo rfl))⟩ ?_
   refine zH ?_
   refine dMs [.string ⟨⟨ratT (uQ L W i)⟩⟩] ?_
   intro h15 p15 x15
   refine dGB (n0:=n) (q:=ratT (uQ L W i)) [.string ⟨⟨ratT (uQ L W i)⟩⟩] (gU14.ext strP.kp x15 zs) strP.kp rfl (yC p15 R2) zo zo (fun W hW=>by (repeat (first|rfl|(refine rF rfl ?_)))) ?_
   intro v16 h16 W16 hW16 gU16 T16 E16 K16 F16
   obtain ⟨aU',rfl⟩:=gU16.shape (L:=i+1) (by rw [List.length_append,lU];rfl)
   have p16:h16 B=_:=(K16 B zo (gU.nbk gB)).trans ((x15 B zo).trans p14)
   have gO16:=(gO14.ext (n':=n10+1+1+1+1+1) strP.kp x15 zs).go strP.kp T16 fun b hb=>K16 b (by have:=(gO14.bk b hb).2.1;omega) (fun hU2=>by
    have h1:=F12 b hb
    have h2:=(gU10.bk b hU2).2.1
    omega)
   have gL16:=(gL14.ext (n':=n10+1+1+1+1+1) strP.kp x15 zs).go strP.kp T16 fun b hb=>K16 b (by have:=(gL14.bk b hb).2.1;omega) (fun hU2=>by
    have h1:=F14 b hb
    have h2:=(gU10.bk b hU2).2.1
    omega)
   have hk16:Exo n h h16:=⟨fun c hc=>(E16.e c hc).trans ((x15 c zo).trans ((E14.e c hc).trans ((x13 c zo).trans ((E12.e c hc).trans ((x11 c zo).trans ((X10.go c zo).trans (X5.go c hc)))))))⟩
   refine zH ?_
   refine dSx (n0:=n) [.slice aO' (i+1) (i+1),.slice none 0 0,.slice aL i i,.slice aU i i] p16 ?_
   intro h17 p17 o17
   refine zH ?_
   refine dSx (n0:=n) [.slice aO' (i+1) (i+1),.slice none 0 0,.slice aL' (i+1) (i+1),.slice aU i i] p17 ?_
   intro h18 p18 o18
   refine zH ?_
   refine dSx (n0:=n) [.slice aO' (i+1) (i+1),.slice none 0 0,.slice aL' (i+1) (i+1),.slice aU' (i+1) (i+1)] p18 ?_
   intro h19 p19 o19
   have ew:addW n [B] (addW n [B] (addW n [B] (addW n W16 (addW n W14 (addW n W12 [])))))=[]:=by
    have hb:∀w,addW n [B] w=w:=fun w=>wM zo
    rw [hb,hb,hb,z6 (fun c hc=>by have:=(hW16 c hc).1;omega),z6 (fun c hc=>by have:=(hW14 c hc).1;omega),z6 (fun c hc=>by have:=(hW12 c hc).1;omega)]
   rw [ew]
   have k19:∀c,c≠B→h19 c=h16 c:=fun c hc=>(o19.1 c hc).trans ((o18.1 c hc).trans (o17.1 c hc))
   have T19:Tr (n10+1+1+1+1+1+1) h16 (n10+1+1+1+1+1+1) h19:=Tr.s o19 (Tr.s o18 (Tr.s o17 (Tr.refl _ _)))
   have nG:∀{sz:Nat} {D:Type} {P:List Value→D→HF→Nat→Prop} {v:Value} {e:TypeId} {l:List D} {m:Nat} {h:HF},GR sz P n h m e v l→∀b,BkOf v b→b≠B:=fun g b hb e=>by have:=(g.bk b hb).2.2.1;rw [e,gB] at this;cases this
   have gO19:=(gO16.go strP.kp T19 fun b hb=>k19 b (nG gO16 b hb)).as pR
   have gL19:=(gL16.go strP.kp T19 fun b hb=>k19 b (nG gL16 b hb)).as pR
   have gU19:=(gU16.go strP.kp T19 fun b hb=>k19 b (nG gU16 b hb)).as pR
   have X19:Exo n h h19:=⟨fun c hc=>(k19 c zo).trans (hk16.go c hc)⟩
   have dL19:∀b,BkOf (.slice aL' (i+1) (i+1)) b→¬BkOf (.slice aO' (i+1) (i+1)) b:=fun b hb hb2=>by
    have h1:=F14 b hb
    have h2:=(gO12.bk b hb2).2.1
    omega
   have dU19:∀b,BkOf (.slice aU' (i+1) (i+1)) b→¬BkOf (.slice aO' (i+1) (i+1)) b:=fun b hb hb2=>by
    have h1:=F16 b hb
    have h2:=(gO12.bk b hb2).2.1
    omega
   have dUL19:∀b,BkOf (.slice aU' (i+1) (i+1)) b→¬BkOf (.slice aL' (i+1) (i+1)) b:=fun b hb hb2=>by
    have h1:=F16 b hb
    have h2:=(gL14.bk b hb2).2.1
    omega
   have n519:n5≤n10+1+1+1+1+1+1:=zo
   clear k19 T19 nB nG p11B o17 o18 o19 p17 p18 p16 gO16 gL16 gU16 hk16 x15 x13 x11 p15 p13 p11 E12 E14 E16 K12 K14 K16 T12 T14 T16 gO14 gU14 gL12 gU12 gO10 gL10 gU10 X10 p10 p12 p14 F12 F14 F16 gO12 gL14
   generalize n10+1+1+1+1+1+1=m at*
   have g19:GG h19 m:=g.ext X19.go zo
   refine zG ?_
   refine sC ((ziv _ g19 (q:=atQ O i) (by have:=(hO.z i).len 13 zd zd;omega)).cx) ?_
   rintro _ h20 n20 ⟨s20,rfl,q20⟩ y20 x20
   have fin:∀{e:Rat},e=eQ O L W i→sumE O L W i+atQ O i*e=sumE O L W (i+1):=fun h=>by rw [h];rfl
   have hz1:Sz 121 (atQ O i*eQ O L W i):=(hO.z i).mul (eQ_z hL hW i)
   have zs:=zdj hO hL hW i
   have hz3:=zdj hO hL hW (i+1)
   have hi5:i<5:=zo
   rcases q20 with ⟨rfl,q20⟩|⟨rfl,q20⟩|⟨rfl,q20⟩
   ·refine zG ?_
    have e:uQ L W i=eQ O L W i:=by unfold eQ;rw [if_pos q20]
    rw [e]
    refine sC ((mulR _ (g19.x zx) (hO.z i) (eQ_z hL hW i) zo zo zo).cx) ?_
    rintro _ h21 n21 rfl y21 x21
    refine sC ((addR _ (g19.x zx) zs hz1 zo zo zo (z:=sumE O L W (i+1)) rfl hz3 zo).cx) ?_
    rintro _ h22 n22 rfl y22 x22
    have X22:Exo m h19 h22:=⟨(show Tx m h19 n22 h22 from zx).2⟩
    refine zG ?_
    exact sK (i+1,aO',aL',aU') ⟨rfl,zo,fun c hc=>(X22.go c zo).trans (X19.go c hc),(X22.go B zo).trans p19,gO19.ext strP.kp X22.go zo,gL19.ext strP.kp X22.go zo,gU19.ext strP.kp X22.go zo,dL19,dU19,dUL19,by show i+1≤lo;omega⟩
   ·refine zG ?_
    have e:atQ L i=eQ O L W i:=by unfold eQ;rw [if_neg zo]
    rw [e]
    refine sC ((mulR _ (g19.x zx) (hO.z i) (eQ_z hL hW i) zo zo zo).cx) ?_
    rintro _ h21 n21 rfl y21 x21
    refine sC ((addR _ (g19.x zx) zs hz1 zo zo zo (z:=sumE O L W (i+1)) rfl hz3 zo).cx) ?_
    rintro _ h22 n22 rfl y22 x22
    have X22:Exo m h19 h22:=⟨(show Tx m h19 n22 h22 from zx).2⟩
    refine zG ?_
    exact sK (i+1,aO',aL',aU') ⟨rfl,zo,fun c hc=>(X22.go c zo).trans (X19.go c hc),(X22.go B zo).trans p19,gO19.ext strP.kp X22.go zo,gL19.ext strP.kp X22.go zo,gU19.ext strP.kp X22.go zo,dL19,dU19,dUL19,by show i+1≤lo;omega⟩
   refine zG ?_
   have e:atQ L i=eQ O L W i:=by unfold eQ;rw [if_neg zo]
   rw [e]
   refine sC ((mulR _ (g19.x zx) (hO.z i) (eQ_z hL hW i) zo zo zo).cx) ?_
   rintro _ h21 n21 rfl y21 x21
   refine sC ((addR _ (g19.x zx) zs hz1 zo zo zo (z:=sumE O L W (i+1)) rfl hz3 zo).cx) ?_
   rintro _ h22 n22 rfl y22 x22
   have X22:Exo m h19 h22:=⟨(show Tx m h19 n22 h22 from zx).2⟩
   refine zG ?_
   exact sK (i+1,aO',aL',aU') ⟨rfl,zo,fun c hc=>(X22.go c zo).trans (X19.go c hc),(X22.go B zo).trans p19,gO19.ext strP.kp X22.go zo,gL19.ext strP.kp X22.go zo,gU19.ext strP.kp X22.go zo,dL19,dU19,dUL19,by show i+1≤lo;omega⟩
 have hil:i=lo:=zo
 subst hil
 have hO5:i≤5:=zo
 have lE:(pE O L W i).obj.length=i:=wN
 refine zG ?_
 refine sC (za7 _ g5 (p:=pE O L W i) gO.strs (show RWS h5 n5 (.slice none 0 0) [] from ⟨[],.nil (.inl rfl),.nil⟩) gL.strs gU.strs (zhp hO hL hW zo hO5) zo (P:=500) (by rw [lE];omega) zo (by rw [lE];omega)) ?_
 rintro _ h6 n6 ⟨zs,s,aX,lX,cX,aR,lR,cR,aC,lC,cC,hsc,rfl⟩ y6 x6
 rw [zax hsc]
 refine zG ?_
 refine sA ?_
 intro h7 p7 x7
 refine zG ?_
 refine sS [.int .i64 1,.string ⟨⟨ratT (sumE O L W i)⟩⟩,.slice aX lX cX,.slice none 0 0,.slice aR lR cR,.slice aC lC cC] ?_
 intro h8 p8 o8
 refine zG ?_
 refine sQ (a:=ratT (sumE O L W i)) (b:=ratT (sumE O L W i)) true (by simp) ?_
 refine zG ?_
 refine sC ((rX _ (g5.x zx)).cx) ?_
 rintro _ h9 n9 rfl y9 x9
 refine zf ?_
 exact rfl
end
def upFn (nm:Nat→Nat):Fn→Fn
 | .yield l=>.yield (nm l)
 |f=>f
mutual
def up (nm:Nat→Nat):Value→Value
 | .pointer (some a)=>.pointer (some ⟨nm a.block,a.off,a.spot⟩)
 | .slice (some a) l c=>.slice (some ⟨nm a.block,a.off,a.spot⟩) l c
 | .func f a b=>.func (upFn nm f) (upA nm a) (upA nm b)
 | .agg cs=>.agg (upA nm cs)
 | .tuple cs=>.tuple (upA nm cs)
 |v=>v
def upA (nm:Nat→Nat):Array Value→Array Value
 |⟨l⟩=>⟨upL nm l⟩
def upL (nm:Nat→Nat):List Value→List Value
 |[]=>[]
 |v::r=>up nm v::upL nm r
end
mutual
theorem je {nm:Nat→Nat}(hb:∀b,ρ.b (nm b)=b)(hx:∀b,ρ.x (nm b)=0)(hg:∀b,gro (nm b)=false):∀v:Value,conc ρ (up nm v)=v
 | .pointer none=>rfl
 | .pointer (some a)=>by simp [up,conc,Ren.addr,hb]
 | .slice none _ _=>rfl
 | .slice (some a) l c=>by
  simp only [up,conc]
  rw [ρ.adrS_old (hg a.block),hx]
  simp [Ren.addr,hb]
 | .func f a b=>by
  have h1:ρ.fn (upFn nm f)=f:=by cases f<;>simp [upFn,Ren.fn,hb]
  simp only [up,conc,h1,rV hb hx hg a,rV hb hx hg b]
 | .agg cs=>by simp only [up,conc,rV hb hx hg cs]
 | .tuple cs=>by simp only [up,conc,rV hb hx hg cs]
 | .bool _=>by simp [up,conc]
 | .int _ _=>by simp [up,conc]
 | .float _ _=>by simp [up,conc]
 | .complex _ _ _=>by simp [up,conc]
 | .string _=>by simp [up,conc]
 | .map _=>by simp [up,conc]
 | .chan _=>by simp [up,conc]
 | .nilFunc=>by simp [up,conc]
 | .nilIface=>by simp [up,conc]
 | .iface _ _=>by simp [up,conc]
theorem rV {nm:Nat→Nat}(hb:∀b,ρ.b (nm b)=b)(hx:∀b,ρ.x (nm b)=0)(hg:∀b,gro (nm b)=false):∀a:Array Value,qM ρ (upA nm a)=a
 |⟨l⟩=>by simp only [upA,qM,gp hb hx hg l]
theorem gp {nm:Nat→Nat}(hb:∀b,ρ.b (nm b)=b)(hx:∀b,ρ.x (nm b)=0)(hg:∀b,gro (nm b)=false):∀l:List Value,pf ρ (upL nm l)=l
 |[]=>rfl
 |v::r=>by simp only [upL,pf,je hb hx hg v,gp hb hx hg r]
end
def bdFn:Fn→Nat
 | .yield l=>l+1
 |_=>0
mutual
def bd:Value→Nat
 | .pointer (some a)=>a.block+1
 | .slice (some a) _ _=>a.block+1
 | .func f a b=>bdFn f+bdA a+bdA b
 | .agg cs=>bdA cs
 | .tuple cs=>bdA cs
 |_=>0
def bdA:Array Value→Nat
 |⟨l⟩=>bdL l
def bdL:List Value→Nat
 |[]=>0
 |v::r=>bd v+bdL r
end
theorem zc3 (ha:Agr m ρ ρ'){a:Addr}(h:a.block<m):ρ'.addr a=ρ.addr a:=by
 unfold Ren.addr
 rw [(ha _ h).1]
theorem zc2 (ha:Agr m ρ ρ'){a:Addr}(h:a.block<m){c:Nat}:ρ'.adrS a l c=ρ.adrS a l c:=by
 unfold Ren.adrS Ren.addr
 rw [(ha _ h).1,(ha _ h).2]
mutual
theorem zfh:∀(v:Value) (m:Nat),bd v≤m→Nb m v
 | .pointer none,m,_=>fun ρ ρ' _=>by simp
 | .pointer (some a),m,h=>fun ρ ρ' ha=>by
  simp only [bd] at h
  simp only [conc,zc3 ha (show a.block<m by omega)]
 | .slice none _ _,m,_=>fun ρ ρ' _=>by simp
 | .slice (some a) l c,m,h=>fun ρ ρ' ha=>by
  simp only [bd] at h
  simp only [conc,zc2 ha (show a.block<m by omega),(ha _ (show a.block<m by omega)).2]
 | .func f a b,m,h=>fun ρ ρ' ha=>by
  simp only [bd] at h
  have h1:ρ'.fn f=ρ.fn f:=by
   cases f<;>simp [Ren.fn]
   rename_i l
   exact (ha l (by simp only [bdFn] at h;omega)).1
  simp only [conc,h1,ig a m zo ρ ρ' ha,ig b m zo ρ ρ' ha]
 | .agg cs,m,h=>fun ρ ρ' ha=>by
  simp only [bd] at h
  simp only [conc,ig cs m h ρ ρ' ha]
 | .tuple cs,m,h=>fun ρ ρ' ha=>by
  simp only [bd] at h
  simp only [conc,ig cs m h ρ ρ' ha]
 | .bool _,m,_=>fun ρ ρ' _=>by simp [conc]
 | .int _ _,m,_=>fun ρ ρ' _=>by simp [conc]
 | .float _ _,m,_=>fun ρ ρ' _=>by simp [conc]
 | .complex _ _ _,m,_=>fun ρ ρ' _=>by simp [conc]
 | .string _,m,_=>fun ρ ρ' _=>by simp [conc]
 | .map _,m,_=>fun ρ ρ' _=>by simp [conc]
 | .chan _,m,_=>fun ρ ρ' _=>by simp [conc]
 | .nilFunc,m,_=>fun ρ ρ' _=>by simp [conc]
 | .nilIface,m,_=>fun ρ ρ' _=>by simp [conc]
 | .iface _ _,m,_=>fun ρ ρ' _=>by simp [conc]
theorem ig:∀(a:Array Value) (m:Nat),bdA a≤m→∀ρ ρ':Ren,Agr m ρ ρ'→qM ρ' a=qM ρ a
 |⟨l⟩,m,h=>fun ρ ρ' ha=>by
  simp only [bdA] at h
  simp only [qM,zdu l m h ρ ρ' ha]
theorem zdu:∀(l:List Value) (m:Nat),bdL l≤m→∀ρ ρ':Ren,Agr m ρ ρ'→pf ρ' l=pf ρ l
 |[],m,_=>fun ρ ρ' _=>rfl
 |v::r,m,h=>fun ρ ρ' ha=>by
  simp only [bdL] at h
  simp only [pf,zfh v m zo ρ ρ' ha,zdu r m zo ρ ρ' ha]
end
theorem zac:∀{l:List Value} {v:Value},v∈l→bd v≤bdL l:=by
 intro l
 induction l with
 |nil=>intro v hv;cases hv
 |cons a l ih=>
  intro v hv
  simp only [bdL]
  rcases List.mem_cons.1 hv with rfl|hv
  ·omega
  have:=ih hv;omega
def un (W:World)(b:Nat):Option (List Value):=match W.heap[b]? with|some (.cells c _ _)=>some c.toList|_=>none
noncomputable def wh (nm:Nat→Nat)(W:World):Nat→Hp
 |0=>.lf
 |k+1=>match un W k with|some c=>Tr.put (wh nm W k) (nm k) (some (.ro (c.map (up nm))))|none=>wh nm W k
theorem de {nm:Nat→Nat}(hi:∀a b,nm a=nm b→a=b)(W:World):∀k x y,(wh nm W k).at x=some y↔∃b,b<k∧x=nm b∧∃c,un W b=some c∧y=.ro (c.map (up nm)):=by
 intro k
 induction k with
 |zero=>
  intro x y
  constructor
  ·intro h;cases h
  rintro ⟨b,hb,_⟩;omega
 |succ k ih=>
  intro x y
  unfold wh
  cases hc:un W k with
  |none=>
   simp only
   rw [ih]
   constructor
   ·rintro ⟨b,hb,h⟩;exact ⟨b,zo,h⟩
   rintro ⟨b,hb,rfl,c,h1,h2⟩
   have:b≠k:=fun e=>by rw [e,hc] at h1;cases h1
   exact ⟨b,zo,rfl,c,h1,h2⟩
  |some c=>
   simp only
   show Tr.get none (Tr.put (wh nm W k) (nm k) _) x=some y↔_
   rw [Tr.get_put none rfl]
   by_cases hx:x=nm k
   ·rw [if_pos hx]
    constructor
    ·intro h;injection h with h;exact ⟨k,zo,hx,c,hc,h.symm⟩
    rintro ⟨b,hb,e,c',h1,h2⟩
    have hbk:b=k:=hi _ _ (e.symm.trans hx)
    rw [hbk,hc] at h1
    injection h1 with h1
    rw [h2,h1]
   rw [if_neg hx]
   show (wh nm W k).at x=some y↔_
   rw [ih]
   constructor
   ·rintro ⟨b,hb,h⟩;exact ⟨b,zo,h⟩
   rintro ⟨b,hb,e,h⟩
   have:b≠k:=fun ee=>hx (by rw [e,ee])
   exact ⟨b,zo,e,h⟩
def nm (b:Nat):Nat:=if b=1∨b=0∨b=4 then 3*b else 3*b+2
theorem mf (a b:Nat)(h:nm a=nm b):a=b:=by
 unfold nm at h
 split at h<;>split at h<;>omega
def ren0:Ren:=⟨fun x=>x/3,fun _=>0,fun _ _=>rfl,fun g=>by simp⟩
theorem qm (b:Nat):ren0.b (nm b)=b:=by
 unfold nm ren0
 split<;>simp<;>omega
theorem zi2 (h:b<n):nm b<3*n:=by
 unfold nm
 split<;>omega
theorem zds (b:Nat):gro (nm b)=false:=by
 unfold nm gro
 split
 ·rw [Nat.mul_mod_right];rfl
 rw [Nat.mul_add_mod];rfl
noncomputable def wH (W:World):Hp:=wh nm W W.heap.size
theorem zgy (W:World):Sim rel ren0 (wH W) W:=by
 refine ⟨fun x y h=>?_,fun x x' h h' e=>?_⟩
 ·obtain ⟨b,hb,rfl,c,hc,rfl⟩:=(de mf W _ _ _).1 h
  unfold un at hc
  split at hc
  ·rename_i c' e fz hW
   injection hc with hc
   subst hc
   refine ⟨_,by rw [qm];exact hW,e,fz,?_⟩
   rw [List.map_map]
   have:(c'.toList.map (conc ren0 ∘ up nm))=c'.toList:=by
    conv=>rhs;rw [←List.map_id c'.toList]
    exact List.map_congr_left fun v _=>je qm (fun _=>rfl) zds v
   rw [this]
  cases hc
 obtain ⟨y,hy⟩:=Option.isSome_iff_exists.1 h
 obtain ⟨y',hy'⟩:=Option.isSome_iff_exists.1 h'
 obtain ⟨b,_,rfl,_⟩:=(de mf W _ _ _).1 hy
 obtain ⟨b',_,rfl,_⟩:=(de mf W _ _ _).1 hy'
 rw [qm,qm] at e
 rw [e]
structure Wn (W:World)(n:Nat):Prop where
 sz:W.heap.size≤n
 le:∀(b:Nat) (c:Array Value) (e:TypeId) (fz:Nat×Nat),W.heap[b]?=some (Obj.cells c e fz)→∀v∈c.toList,bd (up nm v)≤3*n
theorem ziq (W:World)(args:List Value):∃n,20≤n∧Wn W n∧HNb (3*n) (wH W)∧∀v∈args,bd v≤3*n:=by
 have key:∀k,∃m,∀b,b<k→∀c,un W b=some c→bdL (c.map (up nm))≤m:=by
  intro k
  induction k with
  |zero=>exact ⟨0,fun b hb=>by omega⟩
  |succ k ih=>
   obtain ⟨m,hm⟩:=ih
   cases hc:un W k with
   |none=>exact ⟨m,fun b hb c h=>hm b (by (have:b≠k:=fun e=>by rw [e,hc] at h;cases h);omega) c h⟩
   |some c'=>
    refine ⟨m+bdL (c'.map (up nm)),fun b hb c h=>?_⟩
    by_cases hbk:b=k
    ·rw [hbk,hc] at h;injection h with h;subst h;omega
    have:=hm b zo c h;omega
 obtain ⟨m,hm⟩:=key W.heap.size
 refine ⟨20+W.heap.size+m+bdL args,zo,⟨zo,fun b c e fz hW v hvm=>?_⟩,fun x y h=>?_,fun v hv=>by have:=zac hv;omega⟩
 ·have hb:b<W.heap.size:=by
   rcases Nat.lt_or_ge b W.heap.size with h'|h'
   ·exact h'
   rw [Array.getElem?_eq_none h'] at hW;cases hW
  have h1:=hm b hb c.toList (by unfold un;rw [hW])
  have h2:=zac (List.mem_map_of_mem (f:=up nm) hvm)
  omega
 obtain ⟨b,hb,rfl,c,hc,rfl⟩:=(de mf W _ _ _).1 h
 exact ⟨zi2 zo,fun v hv=>zfh v _ (by have:=zac hv;have:=hm b hb c hc;omega)⟩
theorem jE {W:World}{c:Array Value}{fz:Nat×Nat}(h:W.heap[b]?=some (.cells c e fz)):hv (wH W) (nm b)=some (.ro (c.toList.map (up nm))):=by
 have hb:b<W.heap.size:=by
  rcases Nat.lt_or_ge b W.heap.size with h'|h'
  ·exact h'
  rw [Array.getElem?_eq_none h'] at h;cases h
 exact zfw ((de mf W _ _ _).2 ⟨b,hb,rfl,_,by unfold un;rw [h],rfl⟩)
theorem eo {W:World}(f:FuncId)(args:List Value)(k:Nat)(hrun:∀n,20≤n→Wn W n→(∀v∈args.map (up nm),bd v≤3*n)→VF (cal k) f (args.map (up nm)) (hv (wH W)) n fun v=>v=.bool true):
  Calls Tryz.prog f args.toArray W fun e w'=>e=.returned (.bool true)∧RowKit.Below W.heap.size W w':=by
 obtain ⟨n,hn,hs,hnb,hbd⟩:=ziq W (args.map (up nm))
 have ha:∀v∈args.map (up nm),Nb (3*n) v:=fun v hv=>zfh v _ (hbd v hv)
 obtain ⟨v,h',n',w,hc,e1,e2,e3,e4⟩:=hrun n hn hs hbd
 rw [e1,e2,e3,e4] at hc
 obtain ⟨⟨v2,h2,n2,w2⟩,hx,hy⟩:=(zgg k).call f (args.map (up nm)) (wH W) n _ hc
 obtain ⟨e1,e2,e3,e4⟩:v2=.bool true∧hv h2=hv (wH W)∧n2=n∧w2=[]:=by
  simpa [rv] using hy
 subst e1 e3 e4
 obtain ⟨_,hcall⟩:=(zif k).call _ _ _ _ _ _ _ _ hx 0 ren0 W (zgy W) hnb ha
 have hargs:((args.map (up nm)).map (conc ren0))=args:=by
  rw [List.map_map]
  conv=>rhs;rw [←List.map_id args]
  exact List.map_congr_left fun v _=>je qm (fun _=>rfl) zds v
 rw [hargs] at hcall
 refine (callsIn_wide.1 hcall).mono fun e w' ⟨ρ',he,hp⟩=>⟨by rw [he];simp,?_⟩
 exact ⟨hp.os,hp.tape,hp.out,hp.size,fun j hj=>hp.fr j hj fun b hb=>absurd hb List.not_mem_nil⟩
end Go.Proofs.YtdcfbgmbaniglaaGreatDoor
namespace Go.Proofs.YtdcfbgmbaniglaaGreatDoor
open Go Go.GL Go.ChangeShapes Go.WideShapes Go.RowKit
section
set_option maxRecDepth 100000
variable {H:Type}{fuel n:Nat}{e t:TypeId}{cs:List Value}
theorem kH {enc:TypeId×Value→H}{P:Program}{w:World}{base:Nat}{sp:Nat→Bool}{held:Bool}{k:IntKind}{c:Value}{y:DataW H×List MemPlace}
  (ht:P.underlying t=some (.int k))(h:DataW.trod enc P w base sp held fuel t [c]=some y):∃n,c=.int k n∧y=(.lit (.int k n),[]):=by
 cases fuel with
 |zero=>simp [DataW.trod] at h
 |succ fuel=>
  cases c<;>simp [DataW.trod,ht] at h
  rename_i k' n
  obtain ⟨⟨rfl,_⟩,rfl⟩:=h
  exact ⟨n,rfl,rfl⟩
theorem na {enc:TypeId×Value→H}{P:Program}{w:World}{base:Nat}{sp:Nat→Bool}{held:Bool}{k:IntKind}{l:List Int}{p:List MemPlace}
  (ht:P.underlying t=some (.array n e))(he:P.underlying e=some (.int k))(hce:P.cellsOf e=1)(hct:P.cellsOf t=n)
  (h:DataW.trod enc P w base sp held fuel t cs=some (.agg (l.map fun z=>.lit (.int k z)),p)):cs=l.map fun z=>Value.int k z:=by
 cases fuel with
 |zero=>simp [DataW.trod] at h
 |succ fuel=>
  simp only [DataW.trod,ht] at h
  split at h
  ·rename_i hl
   rw [hct] at hl
   rw [Option.map_eq_some_iff] at h
   obtain ⟨xs,hx,hy⟩:=h
   simp only [Prod.mk.injEq,DataW.agg.injEq] at hy
   obtain ⟨hy,_⟩:=hy
   have hlen:=mapM_some_length hx
   rw [List.length_range] at hlen
   have hll:l.length=n:=by
    have:=congrArg List.length hy
    simp at this
    omega
   apply List.ext_getElem?
   intro i
   by_cases hi:i<n
   ·have hg:=mapM_some_get hx i i (by simp [hi])
    obtain ⟨y,hxi⟩:∃y,xs[i]?=some y:=⟨xs[i]'zo,List.getElem?_eq_getElem zo⟩
    rw [hxi,hce,Nat.mul_one] at hg
    have hd:(cs.drop i).take 1=[cs[i]'zo]:=by
     rw [List.drop_eq_getElem_cons zo]
     rfl
    rw [hd] at hg
    obtain ⟨z,hz,rfl⟩:=kH he hg
    have h2:=congrArg (fun q=>q[i]?) hy
    simp only [List.getElem?_map,hxi,Option.map_some] at h2
    obtain ⟨z',hz'⟩:∃z',l[i]?=some z':=⟨l[i]'zo,List.getElem?_eq_getElem zo⟩
    rw [hz'] at h2
    simp only [Option.map_some,Option.some.injEq,DataW.lit.injEq,Lit.int.injEq,true_and] at h2
    rw [List.getElem?_eq_getElem zo,hz,List.getElem?_map,hz',h2]
    rfl
   rw [List.getElem?_eq_none zo,List.getElem?_eq_none (by simp;omega)]
  cases h
theorem di {P:Program}{W:World}{nme:String}{g:Nat}{cs:Array Value}(hg:P.globalNamed nme=some g)(hv:W.var? P nme=some cs):∃e fz,W.heap[g]?=some (.cells cs e fz):=by
 unfold World.var? at hv
 rw [hg] at hv
 simp only [Option.bind_some] at hv
 split at hv
 ·rename_i cs' e fz h
  injection hv with hv
  subst hv
  exact ⟨e,fz,h⟩
 cases hv
theorem up_u (nm:Nat→Nat)(k:IntKind)(l:List Int):(GK.u k l).map (up nm)=GK.u k l:=by
 unfold GK.u
 rw [List.map_map]
 exact List.map_congr_left fun z _=>rfl
def fJ:List (String×DataW Unit):=Rows.simplexExtremeRow.laid
def oH (i:Nat):String:=match fJ[i]? with|some x=>x.1|none=> ""
theorem g32:Tryz.prog.globalNamed (oH 0)=some 4:=by kernel_rfl
theorem g64:Tryz.prog.globalNamed (oH 1)=some 1:=by kernel_rfl
theorem g10:Tryz.prog.globalNamed (oH 2)=some 0:=by kernel_rfl
def zb3 (t:TypeId)(n:Nat)(k:IntKind):Prop:=∃e,Tryz.prog.underlying t=some (.array n e)∧Tryz.prog.underlying e=some (.int k)∧Tryz.prog.cellsOf e=1∧Tryz.prog.cellsOf t=n
theorem qc {W:World}{nme:String}{g t:Nat}{k:IntKind}{l:List Int}{cs:Array Value}{p:List MemPlace}(hg:Tryz.prog.globalNamed nme=some g)(hvar:W.var? Tryz.prog nme=some cs)(hT:zb3 t n k)
  (hd:DataW.trod (fun _=>()) Tryz.prog W 0 (fun _=>true) false fuel t cs.toList=some (.agg (l.map fun z=>.lit (.int k z)),p)):hv (wH W) (nm g)=some (.ro (GK.u k l)):=by
 obtain ⟨e,h1,h2,h3,h4⟩:=hT
 have hc:=na h1 h2 h3 h4 hd
 obtain ⟨e',fz,hb⟩:=di hg hvar
 have:=jE hb
 rw [this,hc]
 show some (BF.ro ((GK.u k l).map (up nm)))=_
 rw [up_u]
theorem ty32:(Tryz.prog.globals[4]?).map (·.type)=some 194:=by kernel_rfl
theorem ty64:(Tryz.prog.globals[1]?).map (·.type)=some 190:=by kernel_rfl
theorem ty10:(Tryz.prog.globals[0]?).map (·.type)=some 173:=by kernel_rfl
theorem zis:zb3 194 32 .u8:=⟨5,by kernel_rfl,by kernel_rfl,by kernel_rfl,by kernel_rfl⟩
theorem zir:zb3 190 64 .u8:=⟨5,by kernel_rfl,by kernel_rfl,by kernel_rfl,by kernel_rfl⟩
theorem zit:zb3 173 20 .u64:=⟨129,by kernel_rfl,by kernel_rfl,by kernel_rfl,by kernel_rfl⟩
theorem zar {W:World}(h:laidMet Tryz.prog fJ W):GK.G (hv (wH W)):=by
 obtain ⟨ps,hL,_,_⟩:=h
 obtain ⟨g1,t1,cs1,fu1,p1,q1,e1,u1,v1,d1,hL,_⟩:=hL
 obtain ⟨g2,t2,cs2,fu2,p2,q2,e2,u2,v2,d2,hL,_⟩:=hL
 obtain ⟨g3,t3,cs3,fu3,p3,q3,e3,u3,v3,d3,_,_⟩:=hL
 obtain rfl:=Option.some.inj (g32.symm.trans e1)
 obtain rfl:=Option.some.inj (g64.symm.trans e2)
 obtain rfl:=Option.some.inj (g10.symm.trans e3)
 obtain rfl:=Option.some.inj (ty32.symm.trans u1)
 obtain rfl:=Option.some.inj (ty64.symm.trans u2)
 obtain rfl:=Option.some.inj (ty10.symm.trans u3)
 exact ⟨qc e2 v2 zir d2,qc e3 v3 zit d3,qc e1 v1 zis d1⟩
end
section
set_option maxRecDepth 100000
variable {fuel i l n sz:Nat}{e t:TypeId}{v:Value}{α:Type}{cells:List Value}
mutual
theorem zcv {H:Type}:∀d:DataW H,1≤Rows.uptoBulk d
 | .lit (.string b)=>by simp [Rows.uptoBulk]
 | .lit (.bool b)=>by simp [Rows.uptoBulk]
 | .lit (.int k b)=>by simp [Rows.uptoBulk]
 | .lit (.float k b)=>by simp [Rows.uptoBulk]
 | .lit .nil=>by simp [Rows.uptoBulk]
 | .nil=>by simp [Rows.uptoBulk]
 | .ptr d=>by simp [Rows.uptoBulk]
 | .slice _ _=>by simp [Rows.uptoBulk]
 | .agg _=>by simp [Rows.uptoBulk]
 | .iface _ d=>by simp [Rows.uptoBulk]
 | .map _=>by simp [Rows.uptoBulk]
 | .held _=>by simp [Rows.uptoBulk]
end
theorem jj {H:Type}:∀l:List (DataW H),l.length≤Rows.uptoBulkAll l:=by
 intro l
 induction l with
 |nil=>simp
 |cons d l ih=>have:=zcv d;simp only [List.length_cons,Rows.uptoBulkAll];omega
theorem jh {H:Type}{d:DataW H}:∀{l:List (DataW H)},d∈l→Rows.uptoBulk d≤Rows.uptoBulkAll l:=by
 intro l
 induction l with
 |nil=>intro h;cases h
 |cons e l ih=>
  intro h
  simp only [Rows.uptoBulkAll]
  rcases List.mem_cons.1 h with rfl|h
  ·omega
  have:=ih h;omega
theorem zcy {a:Addr}{c:Nat}(h:bd (up nm (.slice (some a) l c))≤3*n):nm a.block<3*n:=by
 simp only [up,bd] at h
 omega
theorem lb (a:Addr)(i:Nat):(a.add i).block=a.block:=by unfold Addr.add;split<;>rfl
theorem zao (a:Addr)(i:Nat):(a.add i).off=a.off+i:=by unfold Addr.add;split<;>simp_all
theorem la (a:Addr):a.add 0=a:=by unfold Addr.add;simp
section
variable {H:Type}{enc:TypeId×Value→H}{W:World}{held:Bool}
theorem fk {d:DataW H}{p:List MemPlace}(hW:Wn W n)(ht:Tryz.prog.underlying t=some (.slice e))(hsz:Tryz.prog.cellsOf e=sz)(h0:0<sz)(h:DataW.trod enc Tryz.prog W 0 (fun _=>true) held fuel t [v]=some (d,p))(hb:bd (up nm v)≤3*n):
  ∃(a:Option Addr) (l c:Nat) (cells:List Value),v=.slice a l c∧Sl (hv (wH W)) n sz (up nm v) (cells.map (up nm))∧cells.length=l*sz∧l≤Rows.uptoBulk d∧(∀x∈cells,bd (up nm x)≤3*n)∧
   ∀i,i<l→∃fu D q,DataW.trod enc Tryz.prog W 0 (fun _=>true) held fu e ((cells.drop (i*sz)).take sz)=some (D,q)∧Rows.uptoBulk D≤Rows.uptoBulk d:=by
 rcases Go.Deep.open_slice ht h with ⟨hv,hd⟩|⟨a,len,cap,m,fu,D,Pl,hv,_,hle,_,hm,hx,hel⟩
 ·injection hv with hv
  injection hd with hd
  subst hv hd
  exact ⟨none,0,0,[],rfl,.nil (.inl rfl),by simp,Nat.zero_le _,(fun x hx=>by cases hx),fun i hi=>absurd hi (Nat.not_lt_zero i)⟩
 injection hv with hv
 injection hx with hx _
 subst hv hx
 have hm':m=cap:=by rw [hm];rfl
 subst hm'
 rw [hsz] at hel
 have hbl:nm a.block<3*n:=zcy hb
 have hlb:len≤Rows.uptoBulk (DataW.slice ((List.range len).map D) ((List.range (m-len)).map fun j=>D (len+j))):=by
  have:=jj ((List.range len).map D)
  rw [List.length_map,List.length_range] at this
  simp only [Rows.uptoBulk]
  omega
 have hmem:∀i,i<len→Rows.uptoBulk (D i)≤Rows.uptoBulk (DataW.slice ((List.range len).map D) ((List.range (m-len)).map fun j=>D (len+j))):=fun i hi=>by
  have:=jh (d:=D i) (l:=(List.range len).map D) (List.mem_map_of_mem (List.mem_range.2 hi))
  simp only [Rows.uptoBulk]
  omega
 by_cases hc0:m=0
 ·have hl0:len=0:=zo
  subst hl0
  refine ⟨some a,0,m,[],rfl,.nil (.inr ⟨_,_,_,rfl,hbl⟩),by simp,Nat.zero_le _,(fun x hx=>by cases hx),fun i hi=>absurd hi (Nat.not_lt_zero i)⟩
 have hcell:∀i,i<m→∃cs,DataW.trod enc Tryz.prog W 0 (fun _=>true) held fu e cs=some (D i,Pl i)∧cs.length=sz∧∀j,j<sz→W.cell? ((a.add (i*sz)).add j)=cs[j]?:=fun i hi=>by
  obtain ⟨cs,h1,h2⟩:=hel i hi
  obtain ⟨_,h3,h4⟩:=World.cells?_some h1
  exact ⟨cs,h2,h3,h4⟩
 have hblk:a.spot=none∧∃c e' fz,W.heap[a.block]?=some (.cells c e' fz):=by
  obtain ⟨cs,_,h2,h1⟩:=hcell 0 zo
  have h1:=h1 0 h0
  rw [Nat.zero_mul,la,la,List.getElem?_eq_getElem zo] at h1
  unfold World.cell? at h1
  split at h1
  ·split at h1
   ·cases h1
   rename_i hs
   exact ⟨by simpa using hs,_,_,_,by assumption⟩
  cases h1
 obtain ⟨hspot,c,e',fz,hbk⟩:=hblk
 obtain ⟨b,off,sp⟩:=a
 simp only at hspot hbk hbl
 subst hspot
 have hget:∀i,i<m→∃cs,DataW.trod enc Tryz.prog W 0 (fun _=>true) held fu e cs=some (D i,Pl i)∧cs.length=sz∧∀j,j<sz→c[off+i*sz+j]?=cs[j]?:=fun i hi=>by
  obtain ⟨cs,h2,h4,h3⟩:=hcell i hi
  refine ⟨cs,h2,h4,fun j hj=>?_⟩
  rw [←h3 j hj]
  have e1:((Addr.add ⟨b,off,none⟩ (i*sz)).add j).block=b:=by rw [lb,lb]
  have e2:((Addr.add ⟨b,off,none⟩ (i*sz)).add j).off=off+i*sz+j:=by rw [zao,zao]
  have e3:((Addr.add ⟨b,off,none⟩ (i*sz)).add j).spot=none:=by
   unfold Addr.add
   split
   ·split<;>rfl
   rfl
  unfold World.cell?
  rw [e1,hbk]
  simp only [e2,e3]
  rfl
 have hsz':off+m*sz≤c.size:=by
  obtain ⟨cs,_,h3,h2⟩:=hget (m-1) zo
  have h2:=h2 (sz-1) zo
  rw [List.getElem?_eq_getElem zo] at h2
  rcases Nat.lt_or_ge (off+(m-1)*sz+(sz-1)) c.size with h'|h'
  ·have:(m-1)*sz+sz=m*sz:=by rw [←Nat.succ_mul];congr 1;omega
   omega
  rw [Array.getElem?_eq_none h'] at h2;cases h2
 have hlm:len*sz≤m*sz:=Nat.mul_le_mul_right _ hle
 have hcl:((c.toList.drop off).take (len*sz)).length=len*sz:=by
  rw [List.length_take,List.length_drop,Array.length_toList];omega
 refine ⟨some ⟨b,off,none⟩,len,m,(c.toList.drop off).take (len*sz),rfl,.at_ hbl (jE hbk) rfl hle (by show off+len*sz≤(c.toList.map (up nm)).length;simp;omega) (by rw [List.map_take,List.map_drop]),hcl,hlb,fun x hx=>hW.le b c e' fz hbk x (List.mem_of_mem_drop (List.mem_of_mem_take hx)),fun i hi=>?_⟩
 obtain ⟨cs,h1,h3,h4⟩:=hget i zo
 have hcs:(((c.toList.drop off).take (len*sz)).drop (i*sz)).take sz=cs:=by
  have hil:i*sz+sz≤len*sz:=by rw [←Nat.succ_mul];exact Nat.mul_le_mul_right _ hi
  apply List.ext_getElem?
  intro j
  by_cases hj:j<sz
  ·rw [List.getElem?_take_of_lt hj,List.getElem?_drop,List.getElem?_take_of_lt zo,List.getElem?_drop,Array.getElem?_toList,←h4 j hj,Nat.add_assoc]
  rw [List.getElem?_eq_none (by rw [List.length_take,List.length_drop,hcl];omega),List.getElem?_eq_none zo]
 exact ⟨fu,D i,Pl i,by rw [hcs];exact h1,hmem i hi⟩
theorem zid {g:α→List Value}{Q:α→Prop}:∀{l:Nat} {cells:List Value},cells.length=l*sz→(∀i,i<l→∃x,(cells.drop (i*sz)).take sz=g x∧Q x)→∃xs:List α,xs.length=l∧cells=xs.flatMap g∧∀x∈xs,Q x:=by
 intro l
 induction l with
 |zero=>intro cells hl _;exact ⟨[],rfl,List.length_eq_zero_iff.1 (by rw [hl,Nat.zero_mul]),fun x hx=>by cases hx⟩
 |succ l ih=>
  intro cells hl h
  obtain ⟨x,hx,hq⟩:=h 0 zo
  rw [Nat.zero_mul,List.drop_zero] at hx
  obtain ⟨xs,h1,h2,h3⟩:=ih (cells:=cells.drop sz) (by rw [List.length_drop,hl,Nat.succ_mul];omega) (fun i hi=>by
   obtain ⟨y,hy,hq⟩:=h (i+1) zo
   exact ⟨y,by rw [List.drop_drop,←hy,Nat.succ_mul,Nat.add_comm],hq⟩)
  refine ⟨x::xs,by rw [List.length_cons,h1],?_,fun y hy=>?_⟩
  ·rw [List.flatMap_cons,←hx,←h2,List.take_append_drop]
  rcases List.mem_cons.1 hy with rfl|hy
  ·exact hq
  exact h3 y hy
theorem za1 {c:Value}{y:DataW H×List MemPlace}(ht:Tryz.prog.underlying t=some .string)(h:DataW.trod enc Tryz.prog W 0 (fun _=>true) held fuel t [c]=some y):∃s:List UInt8,c=.string ⟨⟨s⟩⟩:=by
 cases fuel with
 |zero=>simp [DataW.trod] at h
 |succ fuel=>
  cases c<;>simp [DataW.trod,ht] at h
  rename_i s
  exact ⟨s.data.toList,rfl⟩
theorem zbp (hl:cells.length=l*1)(hi:i<l):∃v,(cells.drop (i*1)).take 1=[v]:=by
 rw [Nat.mul_one] at hl ⊢
 exact ⟨cells[i]'zo,by rw [List.drop_eq_getElem_cons zo];rfl⟩
theorem dD {d:DataW H}{p:List MemPlace}(hW:Wn W n)(ht:Tryz.prog.underlying t=some (.slice e))(he:Tryz.prog.underlying e=some .string)(hsz:Tryz.prog.cellsOf e=1)(h:DataW.trod enc Tryz.prog W 0 (fun _=>true) held fuel t [v]=some (d,p))(hb:bd (up nm v)≤3*n):
  ∃S:List (List UInt8),Sl (hv (wH W)) n 1 (up nm v) (strs S)∧S.length≤Rows.uptoBulk d:=by
 obtain ⟨a,l,c,cells,rfl,h1,h2,h3,_,h5⟩:=fk hW ht hsz zd h hb
 obtain ⟨L,h6,h7,h9⟩:=zid (g:=fun s:List UInt8=>[Value.string ⟨⟨s⟩⟩]) (Q:=fun _=>True) h2 (fun i hi=>by
  obtain ⟨v,hv⟩:=zbp h2 hi
  obtain ⟨fu,D,q,h8,_⟩:=h5 i hi
  rw [hv] at h8 ⊢
  obtain ⟨z,rfl⟩:=za1 he h8
  exact ⟨z,rfl,trivial⟩)
 refine ⟨L,?_,zo⟩
 have:cells.map (up nm)=strs L:=by
  rw [h7]
  clear h9 h7 h6
  induction L with
  |nil=>rfl
  |cons z L ih=>rw [List.flatMap_cons,List.map_append,ih];rfl
 rw [←this];exact h1
end
end
section
set_option maxRecDepth 100000
theorem own:ownKnob Tryz.prog.godebug=none:=by kernel_rfl
theorem kD:laidOutB Tryz.prog=true:=by kernel_rfl
def oF (c:Array Value):Obj→Obj
 | .cells _ t frozen=>.cells c t frozen
 |o=>o
noncomputable def mB (os:Os):World:=
 {World.holding Tryz.prog os ⟨#[],#[],[]⟩ with heap:=(((World.holding Tryz.prog os ⟨#[],#[],[]⟩).heap.modify 1 (oF GK.d64.toArray)).modify 0 (oF GK.p10.toArray)).modify 4 (oF GK.d32.toArray)}
theorem oG (os:Os)(args:Array Value):laidMet Tryz.prog fJ ((mB os).forCall (fun _ _=>0) ⟨#[],args,[]⟩).memory:=
 laidMet_of_run' 8 (by kernel_rfl) (by kernel_rfl)
end
end Go.Proofs.YtdcfbgmbaniglaaGreatDoor
