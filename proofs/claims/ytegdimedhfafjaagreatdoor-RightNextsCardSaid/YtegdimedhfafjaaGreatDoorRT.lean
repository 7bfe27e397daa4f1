import Derived.Test.YtegdimedhfafjaaGreatDoorRS
set_option linter.all false
set_option maxRecDepth 100000
set_option maxHeartbeats 4000000
namespace Go.Proofs.YtegdimedhfafjaaGreatDoor
open Go.RowKit Go.Shelf
attribute [local go_sem] World.cell?_alloc_mark zaf za5 zao za8 zav zaw zax zay zaz za0 za1
attribute [local go_sem] zaq zad
theorem znk(l:List Rec)(A:Option Addr)(c:Nat)(w:World)(hc:l.length<=c)(hl:l.length<=1000)(h0:∀x∈l,0<=x.kind/\x.kind<=4)(h2:∀x∈l,x.kind≠2)
 (h3:(∀x∈l,x.kind≠3)\/∃nm ot pl dy tl nu de q,l=[⟨3,nm,ot,pl,dy,tl,nu,de⟩]/\Int.tdiv 27720 de=q/\¬de=0/\(0<=q/\q<=27720)/\(0<=nu*q/\nu*q<=27720))(hS:Sl w 8 Rec.cells A l):
 Calls Tryz.prog 41 #[.slice A l.length c] w (Ret w (.bool (zke l))):=by
 have h:=zjk l A c false false w hc hl h0 hS (fun W hB=>zng l A c W hc hl h2 (hS.keep hB)) (fun W hB=>by
  rcases h3 with h3|⟨nm,ot,pl,dy,tl,nu,de,q,rfl,e1,e2,e3,e4⟩
  ·exact zlW l A c W hc hl h3 (hS.keep hB)
  ·exact zlX nm ot pl dy tl nu de q A c W hc e1 e2 e3 e4 (hS.keep hB))
 rw[Bool.or_false,Bool.or_false]at h;exact h
theorem lens5:recLens zfq:=by
 intro x hx;simp only[zfq,List.mem_cons,List.not_mem_nil,or_false]at hx;rcases hx with rfl|rfl|rfl|rfl|rfl<;>exact⟨by decide,by decide,by decide⟩
def Con5(w:World)(xs:List Nat)(b:Bool):Prop:= ∀W,Below w.heap.size w W->∀A c,(ofP zfq xs).length<=c->Sl W 8 Rec.cells A (ofP zfq xs)->Calls Tryz.prog 41 #[.slice A (ofP zfq xs).length c] W (Ret W (.bool b))
theorem con5_low{w:World}{k:Nat}(h:k<6):Con5 w (zcP 5 k) (k==5):=fun W hB A c hc hS=>by
 have b9:∀k<6,(ofP zfq (zcP 5 k)).all (fun x=>decide (0<=x.kind)&&decide (x.kind<=4)&&x.kind != 2&&x.kind != 3)=true/\zke (ofP zfq (zcP 5 k))=(k==5)/\(ofP zfq (zcP 5 k)).length<=1000:=by decide+kernel
 obtain⟨e1,e2,e3⟩:=b9 k h;rw[List.all_eq_true]at e1;have h:=znk (ofP zfq (zcP 5 k)) A c W hc e3 (fun x hx=>by have:=e1 x hx;simp at this;omega) (fun x hx=>by have:=e1 x hx;simp at this;omega) (.inl fun x hx=>by have:=e1 x hx;simp at this;omega) hS;rw[e2]at h;exact h
theorem con5_one{w:World}{xs:List Nat}(h:xs=[3]\/xs=[4]):Con5 w xs false:=fun W hB A c hc hS=>by
 rcases h with rfl|rfl
 ·exact znk (ofP zfq [3]) A c W hc Mco Mco Mco (.inr ⟨_,_,_,_,_,_,_,13860,rfl,by decide,by decide,by decide,by decide⟩) hS
 ·exact znk (ofP zfq [4]) A c W hc Mco Mco Mco (.inr ⟨_,_,_,_,_,_,_,9240,rfl,by decide,by decide,by decide,by decide⟩) hS
theorem bits5:∀k,k<32->6<=k->2<(zcP 5 k).length\/((zcP 5 k).length=2/\0<lexC (zcP 5 k) [0,2])\/zcP 5 k=[3]\/zcP 5 k=[4]:=by decide+kernel
theorem bits5_in:∀k,k<32->((zcP 5 k).length<=5/\∀i∈zcP 5 k,i<5):=by decide+kernel
theorem neqA(W:World):(binOp .neq 52 (.slice none 0 0) (.slice none 0 0)).run Tryz.prog W=.ok (.bool false) W:=by kernel_rfl
theorem neqB(a:Addr)(n c:Nat)(W:World):(binOp .neq 52 (.slice (some a) n c) (.slice none 0 0)).run Tryz.prog W=.ok (.bool true) W:=by kernel_rfl
theorem eqlB(a:Addr)(n c:Nat)(W:World):(binOp .eql 52 (.slice (some a) n c) (.slice none 0 0)).run Tryz.prog W=.ok (.bool false) W:=by kernel_rfl
def zhl(w:World)(e:Ending)(w':World):Prop:= ∃A c,e=.returned (.tuple #[.slice A 2 c,.int .i64 0])/\2<=c/\Sl w' 1 intC A [0,2]/\Below w.heap.size w w'
def Best5(W:World)(base k:Nat)(v:Value):Prop:=(k<=5/\v=.slice none 0 0)\/(6<=k/\OwnS W base 3 1 intC v [0,2])
theorem Best5.keep{W W':World}{base k n:Nat}{v:Value}(h:Best5 W base k v)(hB:Below n W W')(hn:W.heap.size<=n:=by first|exact Nat.le_refl _|omega):Best5 W' base k v:=h.imp id fun⟨a,b⟩=>⟨a,b.keep hB hn⟩
theorem zpa(A:Option Addr)(c:Nat)(w:World)(hc:5<=c)(hT:TzTab w)(hS:Sl w 8 Rec.cells A zfq):Calls Tryz.prog 16 #[.slice A 5 c] w (zhl w):=by
 obtain⟨HS,iL⟩:=yH2 hS (fun W (hB:Below w.heap.size w W)=>zh4 zfq A 5 c W rfl hc lens5 (hS.keep hB));rw[recs5_ok]at iL;have HT:=zHi hT;clear hS hT;unfold zhl;go_enter Tryz.func16,Tryz.ntmps16
 go_upto_region 8 with(go_at_call 38;go_must(refine(iL.o _ Bw).mono ?_);rintro e wq ⟨rfl,z,rfl⟩)
 go_loopw [5,19] (fun v i wr=>∃k:Nat,k<=32/\i=.int .i64 k/\Best5 wr w.heap.size k v/\Below w.heap.size w wr) (fun _ i _=>32-(intOf i).toNat)
 case atStart=>exact⟨0,Nat.zero_le _,rfl,.inl ⟨by omega,rfl⟩,Bw⟩
 case round=>
  obtain⟨k,hk,rfl,mg,hB⟩:=hrel;have HB:=zHi hB;have aE:=hB.size;by_cases aa:k<32
  ·have eI:=zHi (zlM 5 k wr Mcm aa (HT.o.keep hB));obtain⟨bs,aQ⟩:=bits5_in k aa;have aq:=bits5 k aa;have dM:=fun(W:World) (h:k<6)=>con5_low (w:=W) h
   have am:=zHi aa;have au:(k:Int)<32:=Mcm;have mx:k=5->zcP 5 k=[0,2]:=fun e=>by rw[e];decide+kernel
   have qq:=zHi mg;obtain⟨xs,bu⟩:∃xs,zcP 5 k=xs:=⟨_,rfl⟩
   rw[bu]at eI aQ bs aq dM mx;obtain⟨bX,Bn,bl,tx⟩:=yH4 aQ dM aq mx;clear hB aa mg bu aQ dM aq mx;go_upto_region 11 with(go_at_call 39;go_must(refine eI.o.mono ?_);rintro e wq ⟨vx,rfl,jJ,Ee⟩)
   obtain⟨XA,xc,rfl,CN,uv⟩:=jJ.sl zg6;obtain⟨Je,aw,AN⟩:=yH3 (jJ.base_le aE) (HB.o.trans (Ee.mono aE)) (qq.o.keep Ee);have il:=zHi (fun W (hW:Below wq.heap.size wq W)=>some_any zfq xs A c XA xc W hc uv Mcm bX.o (HS.o.keep (aw.o.trans (hW.mono aw.o.size))) (CN.keep hW));have ca:=zHi CN;rw[show zfq.length=5 from rfl]at il;clear jJ CN Ee eI;rcases AN.o with⟨nI,hv⟩|⟨fm,ae⟩
   ·subst hv;have ia:=neqA;obtain⟨uY,lA⟩:=yH2 nI (Bn.o wq Mcm);clear nI;by_cases hk:k=5
    ·subst hk;have hx:=tx.o rfl;subst hx
     go_wp2_with (first
      |(go_at_call 40;go_must(refine(jZ.o _ Bw).mono ?_);rintro e wq5 ⟨rfl,rfl⟩)
      |(go_at_call 42;go_must(refine(il.o _ Bw).mono ?_);rintro e w7 ⟨v7,rfl,qa,aR⟩;obtain⟨A7,c7,rfl,kx,wR⟩:=qa.sl zg7;obtain⟨bC,vB⟩:=yH2 aR kx;clear qa aR kx)
      |(go_at_call 41;go_must(refine(lA.o _ bC.o A7 c7 wR vB.o).mono ?_);rintro e wq8 ⟨rfl,z8,rfl⟩))
     go_round
     case rel=>exact⟨6,by omega,by go_num,.inr ⟨Nat.le_refl _,(Je.o.keep bC.o).keep (zap w7 z8)⟩,aw.o.trans ((bC.o.trans ((zap w7 z8).mono bC.o.size)).mono (aw.o.size))⟩
     case measure=>simp only[intOf];omega
    ·have mD:(k==5)=false:=by simpa using hk
     rw[mD]at lA;have Ir:=zHi (show k+1<=5 by have:=uY.o;omega);clear hk mD;generalize gK:xs.length=nx at*
     go_wp2_with (first
      |(go_at_call 40;go_must(refine(jZ.o _ Bw).mono ?_);rintro e wq5 ⟨rfl,rfl⟩)
      |(go_at_call 42;go_must(refine(il.o _ Bw).mono ?_);rintro e w7 ⟨v7,rfl,qa,aR⟩;obtain⟨A7,c7,rfl,kx,wR⟩:=qa.sl zg7;obtain⟨bC,vB⟩:=yH2 aR kx;clear qa aR kx)
      |(go_at_call 41;go_must(refine(lA.o _ bC.o A7 c7 wR vB.o).mono ?_);rintro e wq8 ⟨rfl,z8,rfl⟩))
     go_round
     case rel=>exact⟨k+1,am.o,by go_num,.inl ⟨Ir.o,rfl⟩,aw.o.trans ((bC.o.trans ((zap w7 z8).mono bC.o.size)).mono (aw.o.size))⟩
     case measure=>have:=am.o;simp only[intOf];omega
   ·obtain⟨SA,sc,rfl,CD,H9⟩:=ae.sl zg6;obtain⟨dH,HK6,uZ⟩:=yH3 ae fm (show 6<=k+1 by omega);cases SA with
    |none=>
     exfalso
     obtain⟨b,off,h,_⟩:=CD Mcp;cases h
    |some sa=>
     have ia:=neqB sa 2 sc;have jZ:=zHi (fun W (hW:Below wq.heap.size wq W)=>zmR xs [0,2] XA (some sa) xc sc W uv H9 Mcm (ca.o.keep hW) (CD.keep hW));rw[show([0,2]:List Nat).length=2 from rfl]at jZ;have hb:=bl.o fm;clear CD ae fm;rcases hb with h1|⟨h1,h2⟩|h1
     ·have cf:(2:Int)<(xs.length:Int):=Mcm;clear h1;generalize gK:xs.length=nx at*;go_wp2_with fail
      exact MaV
     ·have hC:(0:Int)<lexC xs [0,2]:=h2;generalize lexC xs [0,2]=C at*;rw[h1]at jZ uv;have dA:xs.length=2:=h1;clear h1 h2;go_wp2_with (go_at_call 40;go_must(refine(jZ.o _ Bw).mono ?_);rintro e wq5 ⟨rfl,rfl⟩)
      exact MaV
     ·have lA:=zHi (con5_one (w:=wq) h1);have jW:xs.length=1:=by rcases h1 with rfl|rfl<;>rfl
      rw[jW]at il;clear h1
      go_wp2_with (first
       |(go_at_call 40;go_must(refine(jZ.o _ Bw).mono ?_);rintro e wq5 ⟨rfl,rfl⟩)
       |(go_at_call 42;go_must(refine(il.o _ Bw).mono ?_);rintro e w7 ⟨v7,rfl,qa,aR⟩;obtain⟨A7,c7,rfl,kx,wR⟩:=qa.sl zg7;obtain⟨bC,vB⟩:=yH2 aR kx;clear qa aR kx)
       |(go_at_call 41;go_must(refine(lA.o _ bC.o A7 c7 wR vB.o).mono ?_);rintro e wq8 ⟨rfl,z8,rfl⟩))
      go_round
      case rel=>exact⟨k+1,am.o,by go_num,.inr ⟨uZ.o,(dH.o.keep bC.o).keep (zap w7 z8)⟩,aw.o.trans ((bC.o.trans ((zap w7 z8).mono bC.o.size)).mono (aw.o.size))⟩
      case measure=>have:=am.o;simp only[intOf];omega
  ·have au:¬(k:Int)<32:=Mcm;have fm:¬k<=5:=Mcm;rcases mg with⟨h1,_⟩|⟨_,ae⟩
   ·exact absurd h1 fm
   ·obtain⟨SA,sc,rfl,h3,h4⟩:=ae.sl zg6;have H3:=zHi h3;cases SA with
    |none=>
     exfalso
     obtain⟨b,off,h,_⟩:=h3 Mcp;cases h
    |some sa=>
     have ia:=eqlB sa 2 sc;clear ae h3 hB aa fm;go_wp2_with fail
     go_ret2
     exact⟨some sa,sc,rfl,h4,H3.o,HB.o⟩
theorem zpb(y:Int)(w:World)(h0:0<=y)(h1:y<=100000):Calls Tryz.prog 205 #[.int .i64 y] w (Ret0 w (.bool (zgR y))):=by
 have w1:wrap64 (y.tmod 4)=y.tmod 4:=McN;have w2:wrap64 (y.tmod 100)=y.tmod 100:=McN;have w3:wrap64 (y.tmod 400)=y.tmod 400:=McN;have v1:IntKind.i64.wrap (y.tmod 4)=y.tmod 4:=McH;have v2:IntKind.i64.wrap (y.tmod 100)=y.tmod 100:=McH;have v3:IntKind.i64.wrap (y.tmod 400)=y.tmod 400:=McH;go_enter Tryz.func205,Tryz.ntmps205
 go_wp2_with fail
 all_goals go_ret
 all_goals exact⟨by simp[zgR,Int.tmod_eq_emod_of_nonneg h0, *],rfl⟩
theorem znl(y:Int)(w:World)(h0:0<=y)(h1:y<=100000):Calls Tryz.prog 204 #[.int .i64 y] w (Ret0 w (.int .i64 (zeX y))):=by
 have e1:y.tdiv 4=y/4:=Int.tdiv_eq_ediv_of_nonneg h0;have e2:y.tdiv 100=y/100:=Int.tdiv_eq_ediv_of_nonneg h0;have e3:y.tdiv 400=y/400:=Int.tdiv_eq_ediv_of_nonneg h0;have hv:=zdr h0;have HV:=zHi hv;clear hv;go_enter Tryz.func204,Tryz.ntmps204
 exact MbE
theorem znm{y:Int}(h0:0<=y)(h1:y<=100000):0<=zeX y/\zeX y<=100000:=by
 rw[zdr h0];omega
theorem zfs(y:Int)(m:Nat)(w:World)(h0:0<=y)(h1:y<=100000)(cm:1<=m)(ft:m<=12):Calls Tryz.prog 193 #[.int .i64 y,.int .i64 m] w (Ret0 w (.int .i64 (za6 y m))):=by
 have hm:m=2\/m=1\/m=3\/m=4\/m=5\/m=6\/m=7\/m=8\/m=9\/m=10\/m=11\/m=12:=Mcm;rcases hm with h|h|h|h|h|h|h|h|h|h|h|h
 ·subst h;unfold za6;cases hl:zgR y
  ·have aX:∀W:World,Sem.run Tryz.prog (Instr.index 230 (.agg #[.int .i64 0,.int .i64 31,.int .i64 28,.int .i64 31,.int .i64 30,.int .i64 31,.int .i64 30,.int .i64 31,.int .i64 31,.int .i64 30,.int .i64 31,.int .i64 30,.int .i64 31]) (.int .i64 2)) W=.ok (.int .i64 28) W:=fun W=>by kernel_rfl
   exact MaI
  ·exact MaI
 ·(subst h
   have aX:∀W:World,Sem.run Tryz.prog (Instr.index 230 (.agg #[.int .i64 0,.int .i64 31,.int .i64 28,.int .i64 31,.int .i64 30,.int .i64 31,.int .i64 30,.int .i64 31,.int .i64 31,.int .i64 30,.int .i64 31,.int .i64 30,.int .i64 31]) (.int .i64 1)) W=.ok (.int .i64 31) W:=fun W=>by kernel_rfl
   go_enter Tryz.func193,Tryz.ntmps193
   go_wp2_with fail
   go_ret
   exact⟨rfl,rfl⟩)
 ·(subst h
   have aX:∀W:World,Sem.run Tryz.prog (Instr.index 230 (.agg #[.int .i64 0,.int .i64 31,.int .i64 28,.int .i64 31,.int .i64 30,.int .i64 31,.int .i64 30,.int .i64 31,.int .i64 31,.int .i64 30,.int .i64 31,.int .i64 30,.int .i64 31]) (.int .i64 3)) W=.ok (.int .i64 31) W:=fun W=>by kernel_rfl
   go_enter Tryz.func193,Tryz.ntmps193
   go_wp2_with fail
   go_ret
   exact⟨rfl,rfl⟩)
 ·(subst h
   have aX:∀W:World,Sem.run Tryz.prog (Instr.index 230 (.agg #[.int .i64 0,.int .i64 31,.int .i64 28,.int .i64 31,.int .i64 30,.int .i64 31,.int .i64 30,.int .i64 31,.int .i64 31,.int .i64 30,.int .i64 31,.int .i64 30,.int .i64 31]) (.int .i64 4)) W=.ok (.int .i64 30) W:=fun W=>by kernel_rfl
   go_enter Tryz.func193,Tryz.ntmps193
   go_wp2_with fail
   go_ret
   exact⟨rfl,rfl⟩)
 ·(subst h
   have aX:∀W:World,Sem.run Tryz.prog (Instr.index 230 (.agg #[.int .i64 0,.int .i64 31,.int .i64 28,.int .i64 31,.int .i64 30,.int .i64 31,.int .i64 30,.int .i64 31,.int .i64 31,.int .i64 30,.int .i64 31,.int .i64 30,.int .i64 31]) (.int .i64 5)) W=.ok (.int .i64 31) W:=fun W=>by kernel_rfl
   go_enter Tryz.func193,Tryz.ntmps193
   go_wp2_with fail
   go_ret
   exact⟨rfl,rfl⟩)
 ·(subst h
   have aX:∀W:World,Sem.run Tryz.prog (Instr.index 230 (.agg #[.int .i64 0,.int .i64 31,.int .i64 28,.int .i64 31,.int .i64 30,.int .i64 31,.int .i64 30,.int .i64 31,.int .i64 31,.int .i64 30,.int .i64 31,.int .i64 30,.int .i64 31]) (.int .i64 6)) W=.ok (.int .i64 30) W:=fun W=>by kernel_rfl
   go_enter Tryz.func193,Tryz.ntmps193
   go_wp2_with fail
   go_ret
   exact⟨rfl,rfl⟩)
 ·(subst h
   have aX:∀W:World,Sem.run Tryz.prog (Instr.index 230 (.agg #[.int .i64 0,.int .i64 31,.int .i64 28,.int .i64 31,.int .i64 30,.int .i64 31,.int .i64 30,.int .i64 31,.int .i64 31,.int .i64 30,.int .i64 31,.int .i64 30,.int .i64 31]) (.int .i64 7)) W=.ok (.int .i64 31) W:=fun W=>by kernel_rfl
   go_enter Tryz.func193,Tryz.ntmps193
   go_wp2_with fail
   go_ret
   exact⟨rfl,rfl⟩)
 ·(subst h
   have aX:∀W:World,Sem.run Tryz.prog (Instr.index 230 (.agg #[.int .i64 0,.int .i64 31,.int .i64 28,.int .i64 31,.int .i64 30,.int .i64 31,.int .i64 30,.int .i64 31,.int .i64 31,.int .i64 30,.int .i64 31,.int .i64 30,.int .i64 31]) (.int .i64 8)) W=.ok (.int .i64 31) W:=fun W=>by kernel_rfl
   go_enter Tryz.func193,Tryz.ntmps193
   go_wp2_with fail
   go_ret
   exact⟨rfl,rfl⟩)
 ·(subst h
   have aX:∀W:World,Sem.run Tryz.prog (Instr.index 230 (.agg #[.int .i64 0,.int .i64 31,.int .i64 28,.int .i64 31,.int .i64 30,.int .i64 31,.int .i64 30,.int .i64 31,.int .i64 31,.int .i64 30,.int .i64 31,.int .i64 30,.int .i64 31]) (.int .i64 9)) W=.ok (.int .i64 30) W:=fun W=>by kernel_rfl
   go_enter Tryz.func193,Tryz.ntmps193
   go_wp2_with fail
   go_ret
   exact⟨rfl,rfl⟩)
 ·(subst h
   have aX:∀W:World,Sem.run Tryz.prog (Instr.index 230 (.agg #[.int .i64 0,.int .i64 31,.int .i64 28,.int .i64 31,.int .i64 30,.int .i64 31,.int .i64 30,.int .i64 31,.int .i64 31,.int .i64 30,.int .i64 31,.int .i64 30,.int .i64 31]) (.int .i64 10)) W=.ok (.int .i64 31) W:=fun W=>by kernel_rfl
   go_enter Tryz.func193,Tryz.ntmps193
   go_wp2_with fail
   go_ret
   exact⟨rfl,rfl⟩)
 ·(subst h
   have aX:∀W:World,Sem.run Tryz.prog (Instr.index 230 (.agg #[.int .i64 0,.int .i64 31,.int .i64 28,.int .i64 31,.int .i64 30,.int .i64 31,.int .i64 30,.int .i64 31,.int .i64 31,.int .i64 30,.int .i64 31,.int .i64 30,.int .i64 31]) (.int .i64 11)) W=.ok (.int .i64 30) W:=fun W=>by kernel_rfl
   go_enter Tryz.func193,Tryz.ntmps193
   go_wp2_with fail
   go_ret
   exact⟨rfl,rfl⟩)
 ·(subst h
   have aX:∀W:World,Sem.run Tryz.prog (Instr.index 230 (.agg #[.int .i64 0,.int .i64 31,.int .i64 28,.int .i64 31,.int .i64 30,.int .i64 31,.int .i64 30,.int .i64 31,.int .i64 31,.int .i64 30,.int .i64 31,.int .i64 30,.int .i64 31]) (.int .i64 12)) W=.ok (.int .i64 31) W:=fun W=>by kernel_rfl
   go_enter Tryz.func193,Tryz.ntmps193
   go_wp2_with fail
   go_ret
   exact⟨rfl,rfl⟩)
theorem zdk(y:Int)(m:Nat)(w:World)(h0:1800<=y)(h1:y<=2500)(cm:1<=m)(ft:m<=12):Calls Tryz.prog 192 #[.int .i64 y,.int .i64 m] w (Ret0 w (.int .i64 (zaE y m))):=by
 have L6:=znm (y:=y-1) Mcm Mcm;have k0:IntKind.i64.wrap (y-1)=y-1:=IntWalk.i64_in _ Mcm;have k1:IntKind.i64.wrap (y-1800)=y-1800:=IntWalk.i64_in _ Mcm;have k2:IntKind.i64.wrap (365*(y-1800))=365*(y-1800):=IntWalk.i64_in _ Mcm;have k3:IntKind.i64.wrap (365*(y-1800)+zeX (y-1))=365*(y-1800)+zeX (y-1):=IntWalk.i64_in _ Mcm;have k4:IntKind.i64.wrap (365*(y-1800)+zeX (y-1)-436)=begP y:=by unfold begP;exact IntWalk.i64_in _ Mcm
 have ue:zeX 1799=436:=Mcn;go_enter Tryz.func192,Tryz.ntmps192
 go_upto_region 3 with(go_at_call 204;refine(znl _ _ Mcm Mcm).mono ?_;rintro e wq ⟨rfl,rfl⟩;(try rw[ue]))
 clear k0 k1 k2 k3 k4 L6;go_loop [5,6] (fun n i=>∃k:Nat,1<=k/\k<=m/\i=.int .i64 k/\n=.int .i64 (zaE y k)) (fun _ i=>m-(intOf i).toNat)
 case atStart=>exact⟨1,by omega,cm,rfl,by rw[zbE]⟩
 case round=>
  obtain⟨k,fQ,pU,rfl,rfl⟩:=hrel;by_cases aa:k<m
  ·have hb:=zbZ (m:=k) h0 h1 fQ Mcm;have fO:=zd9 y fQ (show k<=12 by omega);have hu:=zf4 y fQ;have HU:=zHi hu;have k2:IntKind.i64.wrap (zaE y k+za6 y k)=zaE y k+za6 y k:=IntWalk.i64_in _ Mcm;have br:(k:Int)<(m:Int):=Mcm;clear hu;go_wp2_with (go_at_call 193;refine(zfs y k _ Mcm Mcm fQ Mcm).mono ?_;rintro e wq ⟨rfl,rfl⟩)
   go_round
   case rel=>exact⟨k+1,by omega,by omega,by go_num,by rw[HU.o]⟩
   case measure=>simp[intOf];omega
  ·exact Mcg
