/- A region that draws its order: a head that only lays new blocks, in whatever order, and a struct's block that is made anywhere among it and stored at the end. -/
import Derived.Test.YtckkbkdcdkhglaaGreatDoorJ6
set_option linter.unusedSimpArgs false
set_option linter.unusedVariables false
set_option maxRecDepth 100000
set_option maxHeartbeats 4000000
namespace Go.Proofs.YtckkbkdcdkhglaaGreatDoor
open Go.RowKit Go.Shelf
attribute [local go_sem] World.cell?_alloc_mark zag za5 zaq za8 zaw zax zay zaz za0 za1 za2
attribute [local go_sem] zap zad
def Rec.v (r:Rec):Value:= .agg #[.int .i64 r.kind, .string r.name, .string r.other, .string r.place, .int .i64 r.day, .int .i64 r.til, .int .i64 r.num, .int .i64 r.den]
def recO (r:Rec):Obj:= .cells #[.int .i64 r.kind, .string r.name, .string r.other, .string r.place, .int .i64 r.day, .int .i64 r.til, .int .i64 r.num, .int .i64 r.den] 60
theorem zmI (x y:Rec) (w:World) (hx:0<=x.kind/\x.kind<=4) (hy:0<=y.kind/\y.kind<=4):Calls Tryz.prog 93 #[x.v,y.v] w (Ret w (.bool (zbC x y))):=by
 obtain⟨lo,hi,mK⟩: ∃lo hi,(lo,hi)=if y.kind<x.kind then(y,x)else(x,y):=⟨_,_,rfl⟩
 have hr:zbC x y=zge lo hi:=by
  unfold zbC;by_cases h:y.kind<x.kind
  ·rw[if_pos h]at mK;cases mK;rw[if_pos Mdx]
  ·rw[if_neg h]at mK;cases mK;rw[if_neg Mdx]
 have bV:0<=lo.kind/\lo.kind<=4/\0<=hi.kind/\hi.kind<=4:=by
  split at mK<;>cases mK<;>omega
 rw[hr];obtain⟨R,hR⟩: ∃R,R=zge lo hi:=⟨_,rfl⟩
 rw[<-hR];have HR:=zHi hR;clear hR;unfold Rec.v;go_enter Tryz.func93,Tryz.ntmps93
 go_upto_if 10 with fail
 go_cut [11,12]from 13 (fun _ _ W=>W.heap[w.heap.size]?=some (recO lo)/\W.heap[w.heap.size+1]?=some (recO hi)/\Below w.heap.size w W)
 case first=>
  by_cases h:y.kind<x.kind
  ·rw[if_pos h]at mK;cases mK;exact Mbu
  ·rw[if_neg h]at mK;cases mK;exact Mbu
 case rest=>
  obtain⟨g0,g1,hB⟩:=hcut;clear mK hr hx hy;obtain⟨lk,ln,lo2,lp,ld,lt,lu,lv⟩:=lo;obtain⟨hk,hn,tX,hp,hd,ht,hu,hv⟩:=hi;simp only at bV;unfold recO at g0 g1;obtain⟨a0,a1,-,a3,a4,a5,a6,a7⟩:=cF8 g0;obtain⟨b0,b1,-,b3,b4,b5,b6,b7⟩:=cF8 g1;have HB:=zHi hB;clear hB g0 g1;have hR:=HR.o;unfold zge at hR;simp only at hR;clear HR;have Ke:lk=0\/lk=1\/lk=2\/lk=3\/lk=4:=Mcl;have JR:hk=0\/hk=1\/hk=2\/hk=3\/hk=4:=Mcl;clear bV;rcases Ke with rfl|rfl|rfl|rfl|rfl<;>rcases JR with rfl|rfl|rfl|rfl|rfl
  ·exact MbS
  ·cases hs:(ln.toList==hn.toList)
   ·exact MbT
   ·by_cases h:hd<ld
    ·exact MbY
    ·exact MbT
  ·exact MbS
  ·exact MbS
  ·exact MbS
  ·exact MbS
  ·cases hs:(ln.toList==hn.toList)
   ·exact MbT
   ·by_cases h:ld=hd
    ·exact MbT
    ·exact MbY
  ·exact MbS
  ·cases hs:(ln.toList==hn.toList)
   ·exact MbT
   ·by_cases h:ld<hd
    ·exact MbY
    ·exact MbT
  ·cases hs:(ln.toList==hn.toList)
   ·exact MbT
   ·by_cases h:ld<hd
    ·exact MbY
    ·exact MbT
  ·exact MbS
  ·exact MbS
  ·exact MbS
  ·exact MbS
  ·exact MbS
  ·exact MbS
  ·exact MbS
  ·exact MbS
  ·cases hs:(ln.toList==hn.toList)
   ·exact MbT
   ·cases hq:(lp.toList==hp.toList)
    ·exact MbT
    ·by_cases h:ld=hd
     ·by_cases h2:lu=hu
      ·by_cases h3:lv=hv
       ·exact MbT
       ·exact MbY
      ·exact MbY
     ·exact MbT
  ·exact MbS
  ·exact MbS
  ·exact MbS
  ·exact MbS
  ·exact MbS
  ·cases hs:(ln.toList==hn.toList)
   ·cases hq:(lp.toList==hp.toList)
    ·exact MbT
    ·by_cases h:max ld hd<min lt ht
     ·exact MbY
     ·exact MbT
   ·exact MbT
theorem isDay0:zbm 0=true:=by decide
theorem inR04:inR 0 0 4=true:=by decide
theorem inR14:inR 1 0 4=true:=by decide
theorem inR24:inR 2 0 4=true:=by decide
theorem inR34:inR 3 0 4=true:=by decide
theorem inR44:inR 4 0 4=true:=by decide
theorem ziC (x:Rec) (w:World) (h1:x.name.size<=100000) (h2:x.other.size<=100000) (h3:x.place.size<=100000):Calls Tryz.prog 88 #[x.v] w (Ret w (.int .i64 (zct x))):=by
 obtain⟨R,hR⟩: ∃R,R=zct x:=⟨_,rfl⟩
 rw[<-hR];have HR:=zHi hR;clear hR;obtain⟨kd,nm,ot,pl,dy,tl,nu,de⟩:=x;simp only at h1 h2 h3;unfold Rec.v;go_enter Tryz.func88,Tryz.ntmps88
 cases hk:inR kd 0 4
 ·go_wp2_with (go_at_call 97;refine(zbj _ _ _ _).mono ?_;rintro e wq ⟨rfl,rfl⟩;rw[hk])
  go_ret
  exact Ret.of (zb5 (by rw[HR.o];simp[zct, *])) Bw
 ·go_upto_region 3 with(go_at_call 97;refine(zbj _ _ _ _).mono ?_;rintro e wq ⟨rfl,rfl⟩;rw[hk])
  go_cut [11]from 7 (fun v wc=>v= .bool (!zbm dy||!zbm tl)/\Below w.heap.size w wc/\wc.heap[w.heap.size]?=some (.cells #[.int .i64 kd, .string nm, .string ot, .string pl, .int .i64 dy, .int .i64 tl, .int .i64 nu, .int .i64 de] 60))
  case first=>
   go_wp2_with (first
                 |(go_at_call 97;refine(zbj _ _ _ _).mono ?_;intro e wq hq;rcases Ret0.bools hq with⟨rfl,⟨hb,rfl⟩|⟨hb,rfl⟩⟩<;>clear hq)
                 |(go_at_call 59;refine(zcN _ _).mono ?_;intro e wq hq;rcases Ret0.bools hq with⟨rfl,⟨hb,rfl⟩|⟨hb,rfl⟩⟩<;>clear hq)
                 |(go_at_call 58;refine(zca _ _ McV).mono ?_;intro e wq hq;rcases Ret0.bools hq with⟨rfl,⟨hb,rfl⟩|⟨hb,rfl⟩⟩<;>clear hq))
   all_goals go_meet
   all_goals(refine⟨zaP (by first|(simp[noB, *];done)),Bw,by first|exact zar _ _ _ rfl|repeat(first|assumption|with_reducible refine zak ?_|with_reducible refine zb9 ?_|with_reducible refine J_ne Mcl ?_)⟩)
  case rest=>
   obtain⟨rfl,hB,g0⟩:=hcut;obtain⟨d0,d1,d2,d3,d4,d5,d6,d7⟩:=cF8 g0;have e0:w.heap.size<wc.heap.size:=zab g0;cases hb:(!zbm dy||!zbm tl)
   ·have dQ: ∀W,Sem.run Tryz.prog (Instr.index 167 (.agg #[.string nm, .string ot, .string pl]) (.int .i64 0)) W= .ok (.string nm) W:=fun W=>by kernel_rfl
    have jQ: ∀W,Sem.run Tryz.prog (Instr.index 167 (.agg #[.string nm, .string ot, .string pl]) (.int .i64 1)) W= .ok (.string ot) W:=fun W=>by kernel_rfl
    have eR: ∀W,Sem.run Tryz.prog (Instr.index 167 (.agg #[.string nm, .string ot, .string pl]) (.int .i64 2)) W= .ok (.string pl) W:=fun W=>by kernel_rfl
    go_upto_block 1 with fail
    go_cut [4,29]from 30 (fun _ _ W=>W=wc/\zby nm=true/\zby ot=true/\zby pl=true)
    case first=>
     go_wp2_with fail
     go_loopw [4,29] (fun _ i wr=> ∃k:Nat,k<=3/\i= .int .i64 k/\wr=wc/\Hid (∀j s,j<k->[nm,ot,pl][j]?=some s->zby s=true)) (fun _ i _=>3-(intOf i).toNat)
     case atStart=>exact⟨0,by omega,rfl,rfl,fun j s hj=>absurd hj (Nat.not_lt_zero _)⟩
     case round=>
      obtain⟨k,tR,rfl,rfl,HK⟩:=hrel;obtain rfl|rfl|rfl|rfl:k=0\/k=1\/k=2\/k=3:=by omega
      ·cases hz:noB nm
       ·have j8:(nm).toList.isEmpty=false:=hz;have j9: ¬(nm).toList=[]:=Md3;cases hq:zaR nm
        ·have dB:zby nm=false:=MdJ;exact MM
        ·have dB:zby nm=true:=MdJ;have ng:=zHi dB;clear dB;go_wp2_with (go_at_call 58;refine(zca _ _ McV).mono ?_;rintro e wq ⟨rfl,rfl⟩;rw[hq])
         exact Mac
       ·have j8:(nm).toList.isEmpty=true:=hz;have j9:(nm).toList=[]:=Md3;have dB:zby nm=true:=by simp[zby,hz]
        have ng:=zHi dB;clear dB;go_wp2_with fail
        exact Mac
      ·have df:=HK.o 0 nm Mcl rfl;cases hz:noB ot
       ·have j8:(ot).toList.isEmpty=false:=hz;have j9: ¬(ot).toList=[]:=Md3;cases hq:zaR ot
        ·have dB:zby ot=false:=MdJ;exact MM
        ·have dB:zby ot=true:=MdJ;have ng:=zHi dB;clear dB;go_wp2_with (go_at_call 58;refine(zca _ _ McV).mono ?_;rintro e wq ⟨rfl,rfl⟩;rw[hq])
         exact Mad
       ·have j8:(ot).toList.isEmpty=true:=hz;have j9:(ot).toList=[]:=Md3;have dB:zby ot=true:=by simp[zby,hz]
        have ng:=zHi dB;clear dB;go_wp2_with fail
        exact Mad
      ·have df:=HK.o 0 nm Mcl rfl;have gR:=HK.o 1 ot Mcl rfl;cases hz:noB pl
       ·have j8:(pl).toList.isEmpty=false:=hz;have j9: ¬(pl).toList=[]:=Md3;cases hq:zaR pl
        ·have dB:zby pl=false:=MdJ;exact MM
        ·have dB:zby pl=true:=MdJ;have ng:=zHi dB;clear dB;go_wp2_with (go_at_call 58;refine(zca _ _ McV).mono ?_;rintro e wq ⟨rfl,rfl⟩;rw[hq])
         exact Mae
       ·have j8:(pl).toList.isEmpty=true:=hz;have j9:(pl).toList=[]:=Md3;have dB:zby pl=true:=by simp[zby,hz]
        have ng:=zHi dB;clear dB;go_wp2_with fail
        exact Mae
      ·go_wp2_with fail
       go_meet
       exact⟨rfl,HK.o 0 nm Mcl rfl,HK.o 1 ot Mcl rfl,HK.o 2 pl Mcl rfl⟩
    case rest=>
     obtain⟨rfl,q1,q2,q3⟩:=hcut;have fY:kd=0\/kd=1\/kd=2\/kd=3\/kd=4:=by
      unfold inR at hk;simp at hk;omega
     have HB:=zHi hB;have hs:=hB.size;have p1:zbm dy=true:=by cases hd:zbm dy<;>simp_all
     have p2:zbm tl=true:=by cases hd:zbm tl<;>simp_all
     clear dQ jQ eR g0 hB hb;cases z1:noB nm
     ·have y1:nm.toList.isEmpty=false:=z1;have y1': ¬nm.toList=[]:=by simpa using y1
      rcases fY with rfl|rfl|rfl|rfl|rfl
      ·cases z2:noB ot
       ·exact MbZ
       ·exact MbU
      ·cases z2:noB ot
       ·exact MbZ
       ·exact MbU
      ·cases z2:noB ot
       ·have y2:ot.toList.isEmpty=false:=z2;have w2: ¬ot.toList=[]:=Md9;cases z3:noB pl
        ·exact Mck
        ·have y3:pl.toList.isEmpty=true:=z3;have w3:pl.toList=[]:=Mea;by_cases a1:dy=0
         ·skip
          exact Mci
         ·skip
          exact Mh
       ·have y2:ot.toList.isEmpty=true:=z2;have w2:ot.toList=[]:=Md9;exact Mh
      ·cases z2:noB ot
       ·exact MbZ
       ·have y2:ot.toList.isEmpty=true:=z2;have w2:ot.toList=[]:=Md9;cases z3:noB pl
        ·have y3:pl.toList.isEmpty=false:=z3;have w3: ¬pl.toList=[]:=Mea;by_cases t1:tl=0
         ·skip
          cases v1:inR de 1 12
          ·go_wp2_with (go_at_call 97;refine(zbj _ _ _ _).mono ?_;rintro e wq ⟨rfl,rfl⟩;rw[v1])
           exact Ma4
          ·cases v2:inR nu 1 de
           ·go_wp2_with (go_at_call 97;refine(zbj _ _ _ _).mono ?_;rintro e wq ⟨rfl,rfl⟩;first|rw[v1]|rw[v2])
            exact Ma4
           ·have b1:1<=de/\de<=12:=by unfold inR at v1;simpa using v1
            have b2:1<=nu/\nu<=de:=by unfold inR at v2;simpa using v2
            have HG:=zHi (fun W=>zki nu de W Mcl Mcl);clear b1 b2;by_cases v3:Int.gcd nu de=1
            ·have yN:Hid (R=0):=MdN;rw[v3]at HG;exact M8
            ·have v4:((Int.gcd nu de:Int)==1)=false:=by simpa using(by omega: ¬(Int.gcd nu de:Int)=1)
             have v5: ¬((Int.gcd nu de:Nat):Int)=1:=Mcl;have yN:Hid (R=3):=MdN;exact M8
         ·skip
          exact Mh
        ·exact Mcb
      ·cases z2:noB ot
       ·exact MbZ
       ·have y2:ot.toList.isEmpty=true:=z2;have w2:ot.toList=[]:=Md9;cases z3:noB pl
        ·have y3:pl.toList.isEmpty=false:=z3;have w3: ¬pl.toList=[]:=Mea;by_cases u1:nu=0
         ·skip
          by_cases u2:de=0
          ·skip
           by_cases l1:tl<=dy
           ·skip
            exact Mh
           ·skip
            exact Mh
          ·skip
           exact Mh
         ·skip
          exact Mh
        ·exact Mcb
     ·have y1:nm.toList.isEmpty=true:=z1;have y1':nm.toList=[]:=by simpa using y1
      rcases fY with rfl|rfl|rfl|rfl|rfl
      ·exact Mh
      ·exact Mh
      ·exact Mh
      ·exact Mh
      ·exact Mh
   ·(go_wp2_with fail
     go_ret
     exact Ret.of (zb5 (by rw[HR.o];simp[zct, *])) Bw)
end Go.Proofs.YtckkbkdcdkhglaaGreatDoor
namespace Go.Proofs.YtckkbkdcdkhglaaGreatDoor
open Go.RowKit
section
variable {P:Program} {ops:Array Oper} {md:Region.Mode} {w₀:World}
def grow (P:Program) (o:Oper) (a:Act) (w₀:World) (K:Act->Prop):Prop:= ∃v,(∀z,o.quietAt P a (fun w'=> ∃z',w'=(w₀.ext z).ext z') (w₀.ext z) v)/\K (a.put o.dst v)
def zgx (P:Program) (ops:Array Oper) (w₀:World) (Q:Act->Prop):List Oper->Act->Prop
 | [],a=>Q a
 |o::rest,a=>if Region.wanted o (yielded ops a.tmps)then grow P o a w₀ (zgx P ops w₀ Q rest)else zgx P ops w₀ Q rest (a.put o.dst undef)
theorem zf4 {Q:Act->Prop} {a:Act} (h:Q a):zgx P ops w₀ Q [] a:=h
theorem zeD {Q:Act->Prop} {a:Act} {o:Oper} {rest:List Oper}
 (h: ∀K:Act->Prop,(∀a,zgx P ops w₀ Q rest a->K a)->if Region.wanted o (yielded ops a.tmps)then grow P o a w₀ K else K (a.put o.dst undef)):zgx P ops w₀ Q (o::rest) a:=
 h _ (fun _ h=>h)
def YieldsG (P:Program) (ops:Array Oper) (w₀:World) (o:Oper) (v:Value) (a:Act):Prop:=
 (Region.wanted o (yielded ops a.tmps)=true/\ ∀z,o.quietAt P a (fun w'=> ∃z',w'=(w₀.ext z).ext z') (w₀.ext z) v)\/(Region.wanted o (yielded ops a.tmps)=false/\v=undef)
theorem YieldsG.put {oi oj:Oper} {v u:Value} {a:Act} (h1: ∀d,oi.dst=some d->d∉oj.looksAt ops) (Dp: ∀cs b,oj.op≠ .select cs b) (h:YieldsG P ops w₀ oj u (a.put oi.dst v)):YieldsG P ops w₀ oj u a:=by
 unfold YieldsG Oper.quietAt at*;rw[wanted_put oj a oi.dst v h1,execOp_put oj Dp a oi.dst v h1]at h;exact h
theorem YieldsG.put' {oi oj:Oper} {v u:Value} {a:Act} (h1: ∀d,oi.dst=some d->d∉oj.looksAt ops) (Dp: ∀cs b,oj.op≠ .select cs b) (h:YieldsG P ops w₀ oj u a):YieldsG P ops w₀ oj u (a.put oi.dst v):=by
 unfold YieldsG Oper.quietAt at*;rw[wanted_put oj a oi.dst v h1,execOp_put oj Dp a oi.dst v h1];exact h
theorem zfG {i:Nat} {o:Oper} {v:Value} {a:Act} {K:Act->World->Prop} {Q:Exit->Act->World->Prop} {z:Ez} (hi:ops[i]?=some o) (hy:YieldsG P ops w₀ o v a) (hK: ∀z',K (a.put o.dst v) ((w₀.ext z).ext z')):wpOp P ops Q i K a (w₀.ext z):=by
 have BW:K (a.put o.dst v) (w₀.ext z):=by
  have:=hK ⟨#[],(w₀.ext z).drawn⟩;simpa[World.ext]using this
 unfold wpOp;simp only[hi];rcases hy with⟨hw,hv⟩|⟨hw,rfl⟩
 ·rw[if_pos hw];refine .inl ?_;have h3:=hv z;unfold Oper.quietAt at h3;unfold Oper.wp;generalize(execOp a.eval o).run P (w₀.ext z)=r at*;cases r with
  |ok n w'=>
   cases n<;>simp only[Oper.quietUpon]at h3<;>simp only[Oper.upon]
   case value u=>obtain⟨e1,e2⟩:=h3;rw[e1,e2];exact BW
   case skip=>obtain⟨e1,e2⟩:=h3;rw[e1,<-e2];exact BW
   case enter f args=>
    obtain⟨e1,hc⟩:=h3;rw[e1];exact hc.mono fun e w'' ⟨he,z',Du⟩=>by subst he Du;exact hK z'
  |halt x w'=>simp only[Oper.quietUpon]at h3
 ·rw[if_neg (by rw[hw];exact Bool.false_ne_true)];exact BW
def zfP (P:Program) (md:Region.Mode) (ops:Array Oper) (w₀:World) (n:Nat) (L:Array Bool->Act->Prop):Nat->Array Bool->Act->Prop
 |0,listed,a=>L listed a
 |f+1,listed,a=>(∃i∈Region.ready md ops listed,i<n)/\ ∀i∈Region.ready md ops listed,i<n-> ∃o v,ops[i]?=some o/\YieldsG P ops w₀ o v a/\zfP P md ops w₀ n L f (listed.setIfInBounds i true) (a.put o.dst v)
theorem zk3 {n i:Nat} {oi:Oper} {v:Value} {L:Array Bool->Act->Prop} (hi:ops[i]?=some oi) (dC: ∀(j:Nat) (o:Oper) cs b,ops[j]?=some o->o.op≠ .select cs b) (aN:i<n)
 (jN: ∀listed a,L listed a-> ∀j∈Region.ready md ops listed,n<=j):
 ∀(f:Nat) (listed:Array Bool) (a:Act),
  (∀j oj,ops[j]?=some oj->j≠i->listed.getD j true=false->(∀e∈oj.after,Region.binds md e=true->e.on≠i)->oi.apart ops oj=true)->
  i∈Region.ready md ops listed->YieldsG P ops w₀ oi v a->
  zfP P md ops w₀ n L f (listed.setIfInBounds i true) (a.put oi.dst v)->zfP P md ops w₀ n L (f+1) listed a:=by
 intro f;induction f with
 |zero=>
  intro listed a _ hr hy H;refine⟨⟨i,hr,aN⟩,fun j hj FG=> ?_⟩;by_cases cq:j=i
  ·subst cq;exact⟨oi,v,hi,hy,H⟩
  ·have:=jN _ _ H j (ready_mono hj cq);omega
 |succ f ih=>
  intro listed a dZ hr hy H;refine⟨⟨i,hr,aN⟩,fun j hj FG=> ?_⟩;by_cases cq:j=i
  ·subst cq;exact⟨oi,v,hi,hy,H⟩
  ·obtain⟨oj,u,iW,L2,Hj⟩:=H.2 j (ready_mono hj cq) FG;obtain⟨iC,oj',xK,aY⟩:=mem_ready.1 hj;rw[iW]at xK;cases xK;have dg:=(mem_ready.1 hr).1;have mP: ∀e∈oj.after,Region.binds md e=true->e.on≠i:=fun e he hb wR=>by
    have h1:=aY e he hb;rw[wR,getD_both dg]at h1;cases h1
   obtain⟨h1,h2,h3⟩:=Oper.apart_spec (dZ j oj iW cq iC mP);refine⟨oj,u,iW,L2.put h1 (fun cs b=>dC j oj cs b iW),?_⟩;refine ih (listed.setIfInBounds j true) (a.put oj.dst u) ?_ (ready_mono hr (Ne.symm cq)) (hy.put' h3 (fun cs b=>dC i oi cs b hi)) ?_
   ·intro k ok hk ar dg dB;refine dZ k ok hk ar ?_ dB;by_cases hjk:j=k
    ·subst hjk;exact iC
    ·rw[getD_set_ne true hjk]at dg;exact dg
   ·rw[Array.setIfInBounds_comm _ _ cq,<-Act.put_comm a v u h2];exact Hj
def zeP (md:Region.Mode) (ops:Array Oper):Nat->Nat->Array Bool->Bool
 |0,k,listed=>decide (Region.ready md ops listed=[k])&&decide (Region.ready md ops (listed.setIfInBounds k true)=[k+1])&&decide (Region.ready md ops ((listed.setIfInBounds k true).setIfInBounds (k+1) true)=[])
 |f+1,k,listed=>(Region.ready md ops listed).contains k&&Region.free md ops listed k&&zeP md ops f (k+1) (listed.setIfInBounds k true)
def letB (md:Region.Mode) (ops:Array Oper) (n:Nat):Bool:=
 decide (ops.size=n+2)&&Region.noSelect ops&&
 (match ops[n]? with
  |none=>false
  |some al=>al.guard.isNone&&al.after.isEmpty&&(List.range n).all fun j=>match ops[j]? with
   |none=>false
   |some oj=>al.apart ops oj&&oj.after.all fun e=>e.on != n)&&
 (match ops[n+1]? with
  |none=>false
  |some st=>st.guard.isNone&&(List.range (n+1)).all fun j=>st.after.any fun e=>Region.binds md e&&e.on==j)&&
 zeP md ops n 0 (Array.replicate ops.size false)
theorem ziD {n:Nat} {Lq:Act->Prop} (dC:Region.noSelect ops=true):
 ∀(l:List Oper) (k:Nat) (listed:Array Bool) (a:Act),(∀j,j<l.length->l[j]?=ops[k+j]?)->k+l.length=n->
 zeP md ops l.length k listed=true->zgx P ops w₀ Lq l a->
 zfP P md ops w₀ n (fun listed' a'=>zeP md ops 0 n listed'=true/\Lq a') l.length listed a
 | [],k,listed,a,_,hk,hB,h=>by
   have:k=n:=by simpa using hk
   subst this;exact⟨hB,h⟩
 |o::l,k,listed,a,hl,hk,hB,h=>by
  have h0:ops[k]?=some o:=by simpa using(hl 0 Mco).symm
  simp only[List.length_cons,zeP,Bool.and_eq_true]at hB;obtain⟨⟨hr,hf⟩,fD⟩:=hB;have jv:k<n:=by simp only[List.length_cons]at hk;omega
  have cv:k∈Region.ready md ops listed:=by simpa using hr
  obtain⟨v,hy,hK⟩: ∃v,YieldsG P ops w₀ o v a/\zgx P ops w₀ Lq l (a.put o.dst v):=by
   unfold zgx at h;by_cases hw:Region.wanted o (yielded ops a.tmps)=true
   ·rw[if_pos hw]at h;obtain⟨v,h1,h2⟩:=h;exact⟨v, .inl ⟨hw,h1⟩,h2⟩
   ·rw[if_neg hw]at h;exact⟨undef, .inr ⟨by simpa using hw,rfl⟩,h⟩
  exact zk3 h0 (Region.noSelect_spec dC) jv (fun listed' a' hL j hj=>by
   have h1:=hL.1;simp only[zeP,Bool.and_eq_true,decide_eq_true_eq]at h1;rw[h1.1.1]at hj;have:j=n:=by simpa using hj
   omega) l.length listed a (Region.free_spec h0 hf) cv hy
   (ziD dC l (k+1) _ _ (fun j hj=>by have:=hl (j+1) Mcq;simpa[Nat.add_assoc,Nat.add_comm 1 j]using this) (by simp only[List.length_cons]at hk;omega) fD hK)
theorem alloc_ext (w:World) (o:Obj): ∃z,w.alloc o=w.ext z:=zbb (zac (Below.refl _ _) o)
theorem zdC {id:Nat} {Q:Exit->Act->World->Prop} {a:Act} {w:World} {l:List Oper} (n:Nat) (al st:Oper) (obj obj':Obj) (hm:P.follows .mixedOrders=true) (hB:letB .any l.toArray n=true)
 (jM:l[n]?=some al) (am:l[n+1]?=some st)
 (hrun: ∀(a:Act) (W:World),(execOp a.eval al).run P W= .ok (.value (.pointer (some ⟨W.heap.size,0,none⟩))) (W.alloc obj))
 (mF:zgx P l.toArray w (fun aF=>(∀W B,W.heap[B]?=some obj-> ∃W',(execOp (aF.put al.dst (.pointer (some ⟨B,0,none⟩))).eval st).run P W= .ok .skip W'/\W'.heap[B]?=some obj'/\W.grownBy W' (some B))/\
   (∀B W,(∃z,W=w.ext z)->w.heap.size<=B->W.heap[B]?=some obj'->Q .normal ((aF.put al.dst (.pointer (some ⟨B,0,none⟩))).put st.dst undef) W)) (l.take n) a):(Code.region id l.toArray true).wp P Q a w:=by
 generalize hLq:(fun aF:Act=>(∀W B,W.heap[B]?=some obj-> ∃W',(execOp (aF.put al.dst (.pointer (some ⟨B,0,none⟩))).eval st).run P W= .ok .skip W'/\W'.heap[B]?=some obj'/\W.grownBy W' (some B))/\
  (∀B W,(∃z,W=w.ext z)->w.heap.size<=B->W.heap[B]?=some obj'->Q .normal ((aF.put al.dst (.pointer (some ⟨B,0,none⟩))).put st.dst undef) W))=Lq at mF
 simp only[letB,Bool.and_eq_true,decide_eq_true_eq]at hB;obtain⟨⟨⟨⟨hsz,dC⟩,cE⟩,bL⟩,xm⟩:=hB;have wt:l.toArray[n]?=some al:=by simpa using jM
 have sD:l.toArray[n+1]?=some st:=by simpa using am
 rw[wt]at cE;rw[sD]at bL;simp only[Bool.and_eq_true,List.all_eq_true,List.mem_range,Option.isNone_iff_eq_none]at cE bL;obtain⟨⟨bO,haf⟩,cE⟩:=cE;obtain⟨bS,bL⟩:=bL;have yb:=Region.noSelect_spec dC;generalize hops:l.toArray=ops at*;have cN:(l.take n).length=n:=by
  have:l.length=n+2:=by rw[<-hsz,<-hops];simp
  simp;omega
 have H:=ziD (md:= .any) (n:=n) dC (l.take n) 0 _ a (fun j hj=>by
  have s8:j<n:=by rw[cN]at hj;exact hj
  rw[<-hops];simp[s8]) (by simpa using cN) (by rw[cN];exact xm) mF
 rw[cN,hsz]at H;refine wp_region_any hm ?_;rw[hsz];have aw:(Array.replicate (n+2) false).size=n+2:=Mco;have tV:(Array.replicate (n+2) false).getD n true=false:=Mco;have cD:(Array.replicate (n+2) false).getD (n+1) true=false:=Mco;have uc:({w with drawn:=w.drawn+1}:World)=w.ext ⟨#[],w.drawn+1⟩:=by simp[World.ext]
 rw[uc];generalize(⟨#[],w.drawn+1⟩:Ez)=z0;generalize jw:Array.replicate (n+2) false=listed0 at*;clear jw mF xm uc;have rA: ∀j oj,j<n->ops[j]?=some oj->al.apart ops oj=true/\ ∀e∈oj.after,e.on≠n:=fun j oj hj iW=>by
  have:=cE j hj;rw[iW]at this;simp only[Bool.and_eq_true,Array.all_eq_true',bne_iff_ne,ne_eq]at this;exact⟨this.1,fun e he=>this.2 e he⟩
 have pW: ∀(listed:Array Bool) (j:Nat),j<n+1->listed.getD j true=false->n+1∉Region.ready .any ops listed:=fun listed j hj dg hr=>by
  obtain⟨_,o,ho,aY⟩:=mem_ready.1 hr;rw[sD]at ho;cases ho;obtain⟨e,he,hb⟩:=Array.any_eq_true'.1 (bL j hj);simp only[Bool.and_eq_true,beq_iff_eq]at hb;have:=aY e he hb.1;rw[hb.2,getD_both dg]at this;cases this
 have aa: ∀(listed:Array Bool) (j:Nat),j∈Region.ready .any ops listed->j<n\/j=n\/j=n+1:=fun listed j hj=>by
  obtain⟨_,o,ho,_⟩:=mem_ready.1 hj;have:=(Array.getElem?_eq_some_iff.1 ho).1;omega
 have Dw: ∀t,Region.wanted al (yielded ops t)=true:=fun t=>by simp[Region.wanted,bO]
 have Dy: ∀t,Region.wanted st (yielded ops t)=true:=fun t=>by simp[Region.wanted,bS]
 have last: ∀(listed:Array Bool) (aF:Act) (z:Ez) (B:Nat),Lq aF->zeP .any ops 0 n listed=true->w.heap.size<=B->(w.ext z).heap[B]?=some obj->
  wpAny P .any ops Q 1 (listed.setIfInBounds n true) (aF.put al.dst (.pointer (some ⟨B,0,none⟩))) (w.ext z):=fun listed aF z B hq hL fe hb=>by
  rw[<-hLq]at hq;obtain⟨hstore,h⟩:=hq;simp only[zeP,Bool.and_eq_true,decide_eq_true_eq]at hL;refine⟨fun h0=>(by rw[hL.1.2]at h0;cases h0),fun i hi=> ?_⟩;rw[hL.1.2]at hi;have aN:i=n+1:=by simpa using hi
  subst aN;unfold wpOp;simp only[sD];rw[if_pos (Dy _)];refine .inl ?_;obtain⟨W',hr,cK,dt⟩:=hstore _ _ hb;unfold Oper.wp;rw[hr];refine⟨hL.2,h B W' ?_ fe cK⟩;exact zbb ((zam w z).grown dt (Below.size (zam w z)) (fun k hk=>by cases hk;exact fe))
 have modeB: ∀(f:Nat) (listed:Array Bool) (a:Act) (z:Ez) (B:Nat),listed.getD n true=false->w.heap.size<=B->(w.ext z).heap[B]?=some obj->
  zfP P .any ops w n (fun listed' a'=>zeP .any ops 0 n listed'=true/\Lq a') f listed a->
  wpAny P .any ops Q (f+1) (listed.setIfInBounds n true) (a.put al.dst (.pointer (some ⟨B,0,none⟩))) (w.ext z):=by
  intro f;induction f with
  |zero=>
   intro listed a z B _ fe hb hH;exact last listed a z B hH.2 hH.1 fe hb
  |succ f ih=>
   intro listed a z B dg fe hb hH;obtain⟨⟨i0,eN,xb⟩,aY⟩:=hH;have xa:=ready_mono eN (show i0≠n by omega);refine⟨fun h0=>(by rw[h0]at xa;cases xa),fun i hi=> ?_⟩;have aN:i≠n:=by
    rintro rfl;have:=(mem_ready.1 hi).1;have hs:i<listed.size:=by
     rcases Nat.lt_or_ge i listed.size with h|h
     ·exact h
     ·simp[Array.getElem?_eq_none h]at dg
    simp[Array.getElem?_setIfInBounds,hs]at this
   rcases aa _ i hi with aa|aa|aa
   ·obtain⟨hu,oi,xJ,Cm⟩:=mem_ready.1 hi;obtain⟨nB,dB⟩:=rA i oi aa xJ
    have hr:i∈Region.ready .any ops listed:=mem_ready.2 ⟨by rw[getD_set_ne true (Ne.symm aN)]at hu;exact hu,oi,xJ,fun e he hb=>by
     have:=Cm e he hb;rw[getD_set_ne false (Ne.symm (dB e he))]at this
     exact this⟩
    obtain⟨o,v,ho,hy,vH⟩:=aY i hr aa;rw[xJ]at ho;cases ho;obtain⟨h1,h2,h3⟩:=Oper.apart_spec nB;refine zfG xJ (hy.put' h1 (fun cs b=>yb i oi cs b xJ)) fun z'=> ?_
    rw[<-Array.setIfInBounds_comm _ _ aN,Act.put_comm a _ v h2,zhU];refine ih _ _ _ B (by rw[getD_set_ne true aN];exact dg) fe ?_ vH;rw[<-zhU,zcI _ _ _ (Array.getElem?_eq_some_iff.1 hb).1];exact hb
   ·exact absurd aa aN
   ·subst aa;have KJ:(listed.setIfInBounds n true).getD i0 true=false:=by rw[getD_set_ne true Mcl];exact(mem_ready.1 eN).1
    exact absurd hi (pW _ i0 Mcl KJ)
 have modeA: ∀(f:Nat) (listed:Array Bool) (a:Act) (z:Ez),listed.getD n true=false->
  zfP P .any ops w n (fun listed' a'=>zeP .any ops 0 n listed'=true/\Lq a') f listed a->
  wpAny P .any ops Q (f+2) listed a (w.ext z):=by
  have make: ∀(f:Nat) (listed:Array Bool) (a:Act) (z:Ez),listed.getD n true=false->zfP P .any ops w n (fun listed' a'=>zeP .any ops 0 n listed'=true/\Lq a') f listed a->
   wpOp P ops Q n (wpAny P .any ops Q (f+1) (listed.setIfInBounds n true)) a (w.ext z):=fun f listed a z dg hH=>by
   unfold wpOp;simp only[wt];rw[if_pos (Dw _)];refine .inl ?_;unfold Oper.wp;rw[hrun];obtain⟨z',L3⟩:=alloc_ext (w.ext z) obj;have hb:=heap_alloc_new (w.ext z) obj;have oP:w.heap.size<=(w.ext z).heap.size:=by rw[zag];omega
   show wpAny P .any ops Q (f+1) (listed.setIfInBounds n true) (a.put al.dst (.pointer (some ⟨(w.ext z).heap.size,0,none⟩))) ((w.ext z).alloc obj);generalize(w.ext z).heap.size=B at*;rw[L3,zhU]at hb⊢;exact modeB f listed a _ B dg oP hb hH
  intro f;induction f with
  |zero=>
   intro listed a z dg hH;have hL:=hH.1;simp only[zeP,Bool.and_eq_true,decide_eq_true_eq]at hL;refine⟨fun h0=>(by rw[hL.1.1]at h0;cases h0),fun i hi=> ?_⟩;rw[hL.1.1]at hi;have aN:i=n:=by simpa using hi
   subst aN;exact make 0 listed a z dg hH
  |succ f ih=>
   intro listed a z dg hH;obtain⟨⟨i0,eN,xb⟩,aY⟩:=hH;refine⟨fun h0=>(by rw[h0]at eN;cases eN),fun i hi=> ?_⟩;rcases aa _ i hi with aa|aa|aa
   ·obtain⟨o,v,ho,hy,vH⟩:=aY i hi aa;refine zfG ho hy fun z'=> ?_
    rw[zhU];exact ih _ _ _ (by rw[getD_set_ne true Mcl];exact dg) vH
   ·subst aa;exact make (f+1) listed a z dg ⟨⟨i0,eN,xb⟩,aY⟩
   ·subst aa;exact absurd hi (pW _ i0 Mcl (mem_ready.1 eN).1)
 exact modeA n listed0 a z0 tV H
end
theorem quietg {P:Program} {f:FuncId} {args:Array Value} {W:World} {v:Value} (h:Calls P f args W (Ret W v)):Calls P f args W fun e w''=>e= .returned v/\ ∃z,w''=W.ext z:=h
end Go.Proofs.YtckkbkdcdkhglaaGreatDoor
