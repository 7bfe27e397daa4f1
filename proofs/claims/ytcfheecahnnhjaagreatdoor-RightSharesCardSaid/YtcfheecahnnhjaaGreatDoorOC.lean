import Derived.Test.YtcfheecahnnhjaaGreatDoorRM
set_option linter.all false
set_option maxRecDepth 100000
set_option maxHeartbeats 4000000
namespace Go.Proofs.YtcfheecahnnhjaaGreatDoor
open Go.RowKit
attribute [local go_sem] World.cell?_alloc_mark zag za4 zar zaB zaw zax zay zaz za0 za1 za2
attribute [local go_sem] zas zad
theorem zpa(a b:ByteArray):zae a b=zae b a:=by
 rw[Bool.eq_iff_iff,zap,zap];exact⟨Eq.symm,Eq.symm⟩
theorem zjS(fb sh:Bool)(frm:ByteArray):∀(l seen:List RPart) (L:List ByteArray) (s:Rat),(∀n,L.any (zae n)=seen.any (fun q=>zae q.name n))->
 zcr fb sh frm l seen s=if(zde l L&&l.all (fun p=>!(zae p.name frm&&fb)))&&(if sh then l.all (fun p=>za8 16 p.num p.den&&p.num != 0)else l.all (fun p=>p.num==0&&p.den==0))then some (if sh then s+sumQ (zan l)else s)else none
 | [],seen,L,s,h=>by
   rw[zcr];cases sh
   ·simp[zde]
   ·simp[zde,zan,sumQ,Rat.add_zero]
 |p::l,seen,L,s,h=>by
  have ih:=fun t=>zjS fb sh frm l (seen++[p]) (p.name::L) t (fun n=>by
   rw[List.any_cons,List.any_append,h n,List.any_cons,List.any_nil,Bool.or_false,Bool.or_comm,zpa n])
  have hs:sumQ (zan (p::l))=p.rat+sumQ (zan l):=rfl;rw[zcr,zde,h p.name,List.all_cons,List.all_cons,List.all_cons,hs,ih,ih];cases h1:seen.any (fun q=>zae q.name p.name)
  ·cases h2:(zae p.name frm&&fb)
   ·simp only[Bool.or_self,Bool.false_eq_true,if_false,Bool.not_false,Bool.true_and];cases sh
    ·simp only[Bool.not_false,if_true,Bool.false_eq_true,if_false];by_cases hz:p.num=0
     ·by_cases hy:p.den=0
      ·simp[hz,hy]
      ·simp[hz,hy]
     ·simp[hz]
    ·simp only[Bool.not_true,if_true,Bool.false_eq_true,if_false];cases h3:za8 16 p.num p.den
     ·simp
     ·by_cases hz:p.num=0
      ·simp[hz]
      ·have e:s+p.rat+sumQ (zan l)=s+(p.rat+sumQ (zan l)):=McX;simp[hz,e]
   ·simp
  ·simp
theorem zpb(s:Rat):decide (s.num<=(s.den:Int))=decide (s<=1):=by
 rw[Bool.eq_iff_iff,decide_eq_true_eq,decide_eq_true_eq,Rat.le_iff];simp
theorem zna(s:Rat):(s.num==(s.den:Int))=(s==1):=by
 rw[Bool.eq_iff_iff,beq_iff_eq,beq_iff_eq];constructor
 ·intro h;have h1:=Rat.num_divInt_den s;rw[h]at h1;rw[<-h1];have:=s.den_pos;rw[Rat.divInt_self'];omega
 ·intro h;rw[h];rfl
theorem sumOk_eq(fb sh al:Bool)(frm:ByteArray)(l:List RPart)(hf:fb=true\/∀p∈l,zae p.name frm=false):zgS sh al (zcr fb sh frm l [] 0)=zcF sh al frm l:=by
 have h0:∀n:ByteArray,([]:List ByteArray).any (zae n)=([]:List RPart).any (fun q=>zae q.name n):=fun n=>rfl
 rw[zjS fb sh frm l [] [] 0 h0];have Kt:l.all (fun p=>!(zae p.name frm&&fb))=l.all (fun p=>!zae p.name frm):=by
  rcases hf with hf|hf
  ·subst hf;simp
  ·rw[Bool.eq_iff_iff,List.all_eq_true,List.all_eq_true];exact⟨fun _ p hp=>by rw[hf p hp];rfl,fun _ p hp=>by rw[hf p hp];rfl⟩
 rw[Kt];unfold zcF;cases sh
 ·simp only[Bool.false_eq_true,if_false];split
  ·rename_i h;rw[h];rfl
  ·rename_i h
   rw[Bool.not_eq_true]at h;rw[h];rfl
 ·simp only[if_true];split
  ·rename_i h
   rw[Bool.and_eq_true,Bool.and_eq_true]at h;rw[h.1.1,h.1.2,h.2];simp only[zgS,Bool.not_true,Bool.false_or,Bool.true_and,Rat.zero_add,zpb,zna]
  ·rename_i h
   rw[Bool.not_eq_true]at h;simp only[zgS];cases h1:zde l []<;>cases h2:l.all (fun p=>!zae p.name frm)<;>cases h3:l.all (fun p=>za8 16 p.num p.den&&p.num != 0)<;>simp_all
theorem noB_same{a b:ByteArray}(ha:noB a=false)(hb:noB b=true):zae a b=false:=by
 unfold noB at ha hb;unfold zae;cases h:(a.toList==b.toList)
 ·rfl
 ·rw[beq_iff_eq]at h;rw[h,hb]at ha;cases ha
theorem zhT{f:Form}{frm:ByteArray}{l:List RPart}(hf:f.frm=true\/∀p∈l,zae p.name frm=false):zhq f frm l=if f.parts then(!l.isEmpty&&(f.shares||l.length==1))&&zcF f.shares f.all frm l else l.isEmpty:=by
 unfold zhq;rw[sumOk_eq _ _ _ _ _ hf];cases f.parts
 ·simp
 ·cases l.isEmpty
  ·cases f.shares
   ·by_cases h:l.length=1
    ·simp[h]
    ·simp[h]
   ·simp
  ·simp
theorem zkL(d:Deed):zdq d=zaI d:=by
 obtain⟨kd,dy,pl,fr,ps,cl,yr⟩:=d;unfold zdq zaI;simp only;split
 ·rfl
 rename_i h1
 split
 ·rfl
 rename_i h2
 split
 ·rfl
 rename_i h3
 have e4:(ps.any fun p=>!zaT p.name)=!ps.all fun p=>zaT p.name:=by rw[List.not_all_eq_any_not]
 rw[e4];split
 ·rfl
 rename_i h4
 have hn:∀p∈ps,noB p.name=false:=fun p hp=>by
  cases ha:(ps.all fun p=>zaT p.name)
  ·rw[ha]at h4;simp at h4
  ·exact zgj (List.all_eq_true.1 ha p hp)
 simp only[Bool.not_eq_true',Bool.not_eq_false,zf0]at h1;have hk:kd=0\/kd=1\/kd=2\/kd=3\/kd=4\/kd=5\/kd=6\/kd=7\/kd=8:=Mcu;have hg:noB fr=true->∀p∈ps,zae p.name fr=false:=fun hb p hp=>noB_same (hn p hp) hb
 clear h1 h2 h3 h4 hn e4;have F5:(0:Int)=0:=rfl;rcases hk with rfl|rfl|rfl|rfl|rfl|rfl|rfl|rfl|rfl
 all_goals
  simp only[zfH,zfK,Int.toNat_zero,Int.toNat_one,List.getD_cons_zero,show(2:Int).toNat=2 from rfl,show(3:Int).toNat=3 from rfl,show(4:Int).toNat=4 from rfl,show(5:Int).toNat=5 from rfl,show(6:Int).toNat=6 from rfl,show(7:Int).toNat=7 from rfl,show(8:Int).toNat=8 from rfl,List.getD_cons_succ]
 ·cases hb:noB fr
  ·simp
  ·rw[zhT (f:=⟨_,_,_,_,_,_,_,_⟩) (.inr (hg hb))];cases noB pl<;>cases hy:(yr==0)<;>cases hc:(cl==2)<;>simp
 ·exact MZ
 ·exact MZ
 ·cases hb:noB fr
  ·simp
  ·rw[zhT (f:=⟨_,_,_,_,_,_,_,_⟩) (.inr (hg hb))];cases noB pl<;>cases hy:(yr==0)<;>cases hc:(cl==0)<;>simp_all
 ·exact MZ
 ·exact Mai
 ·exact Mai
 ·exact Mai
 ·exact MZ
section
open Go.Shelf
def zlX(n o:ByteArray)(m:ByteArray×ByteArray):ByteArray:=if zae m.1 n then m.2 else o
def spSt(n o:ByteArray)(m:ByteArray×ByteArray):ByteArray:=if zae m.2 n then m.1 else zlX n o m
def spGo(n:ByteArray)(l:List (ByteArray×ByteArray))(o:ByteArray):ByteArray:=l.foldl (spSt n) o
theorem zlY(n:ByteArray)(l:List (ByteArray×ByteArray))(m:ByteArray×ByteArray)(o:ByteArray):spGo n (l++[m]) o=spSt n (spGo n l o) m:=by
 unfold spGo;rw[List.foldl_append];rfl
theorem spGo_eq(n:ByteArray)(l:List (ByteArray×ByteArray)):spGo n l.reverse ⟨#[]⟩=zdt n l:=by
 induction l with
 |nil=>rfl
 |cons m l ih=>
  rw[List.reverse_cons,zlY,ih];obtain⟨a,b⟩:=m;rw[zdt];unfold spSt zlX;simp only;cases h1:zae a n
  ·cases h2:zae b n<;>simp
  ·cases h2:zae b n
   ·simp
   ·simp only[if_true];exact(zap.1 h1).trans (zap.1 h2).symm
def zfX(ms:List (ByteArray×ByteArray))(dd:List ByteArray)(n:ByteArray):ByteArray:=if dd.any (zae (spGo n ms ⟨#[]⟩))then⟨#[]⟩else spGo n ms ⟨#[]⟩
theorem zpc(s:St)(n:ByteArray):zfX s.marriages s.dead n=zaK s n:=by
 have h:=spGo_eq n s.marriages.reverse;rw[List.reverse_reverse]at h;unfold zfX zaK zaN;rw[h]
theorem znb(ms:List (ByteArray×ByteArray))(dd:List ByteArray)(n:ByteArray)(LA CA MA DA WA RA GA:Option Addr)(n0 c0 n1 c1 n2 c2 n3 c3 n4 c4 n5 c5 n6 c6:Nat)(w:World)(hl:ms.length<=100000)(hS:Sl w 2 zaV MA ms)(bx:dd.length<=100000)(nH:dd.length<=c3)(hD:Sl w 1 sC DA dd):
 Calls Tryz.prog 166 #[.agg #[.slice LA n0 c0,.slice CA n1 c1,.slice MA ms.length c2,.slice DA dd.length c3,.slice WA n4 c4,.slice RA n5 c5,.slice GA n6 c6],.string n] w (Ret w (.string (zfX ms dd n))):=by
 obtain⟨fh,ic⟩:=yH2 hS (fun x W (h:Below w.heap.size w W)=>zeJ dd x LA CA MA DA WA RA GA n0 c0 n1 c1 ms.length c2 dd.length c3 n4 c4 n5 c5 n6 c6 W bx nH (hD.keep h));clear hS hD;go_enter Tryz.func166,Tryz.ntmps166
 go_upto_region 1 with fail
 obtain⟨W0,ak⟩:∃W0,W0=w.alloc (.cells #[.slice LA n0 c0,.slice CA n1 c1,.slice MA ms.length c2,.slice DA dd.length c3,.slice WA n4 c4,.slice RA n5 c5,.slice GA n6 c6] 44):=⟨_,rfl⟩
 have b0:W0.heap[w.heap.size]?=some (.cells #[.slice LA n0 c0,.slice CA n1 c1,.slice MA ms.length c2,.slice DA dd.length c3,.slice WA n4 c4,.slice RA n5 c5,.slice GA n6 c6] 44):=Mdm;have aE:Below w.heap.size w W0:=Mc5;rw[<-ak];obtain⟨aj,HS⟩:=yH2 aE (fh.o.keep aE);obtain⟨k0,k1,k2,k3,k4,k5,k6⟩:=cF7 b0;clear ak b0 aE fh;go_upto_region 3 with fail
 go_loopw [5,6,7] (fun v i _ wr=>∃(k:Nat) (o:ByteArray),k<=ms.length/\i=.int .i64 k/\v=.string o/\W0=wr/\Hid (o=spGo n (ms.take k) ⟨#[]⟩)) (fun _ i _ _=>ms.length-(intOf i).toNat)
 case atStart=>exact⟨0,⟨#[]⟩,Nat.zero_le _,rfl,rfl,rfl,zHi rfl⟩
 case round=>
  obtain⟨k,o,hk,rfl,rfl,rfl,HX⟩:=hrel;by_cases ae:k<ms.length
  ·obtain⟨b,off,rfl,hb,ah⟩:=HS.o.at ae;have iS:ms.take (k+1)=ms.take k++[ms[k]]:=by rw[List.take_add_one,List.getElem?_eq_getElem ae];rfl
   have am:=zHi ae;have av:Hid (spGo n (ms.take (k+1)) ⟨#[]⟩=spSt n o ms[k]):=by show _=_;rw[iS,zlY,<-HX.o];rfl
   generalize ms[k]=m at*;obtain⟨ma,mb⟩:=m;have i0:W0.cell? ⟨b,off+k*2,none⟩=some (.string ma):=ah 0 _ rfl;have i1:W0.cell? ⟨b,off+k*2+1,none⟩=some (.string mb):=ah 1 _ rfl;have ar:(k:Int)<(ms.length:Int):=Mcu;have aT:(0:Int)<=(k:Int):=Mcu;clear ah ae iS;go_upto_region 6 with fail
   go_loopw [5,7] (fun v z wr=>W0=wr/\((z=.int .i64 0/\v=.string o)\/(z=.int .i64 1/\v=.string (zlX n o (ma,mb)))\/(z=.int .i64 2/\v=.string (spSt n o (ma,mb))))) (fun _ z _=>2-(intOf z).toNat)
   case atStart=>exact⟨rfl,.inl ⟨rfl,rfl⟩⟩
   case round=>
    obtain⟨rfl,⟨rfl,rfl⟩|⟨rfl,rfl⟩|⟨rfl,rfl⟩⟩:=hrel
    ·cases hs:zae ma n
     ·have aY:(ma.toList==n.toList)=false:=hs;have he:zlX n o (ma,mb)=o:=by unfold zlX;simp[hs]
      exact Map
     ·have aY:(ma.toList==n.toList)=true:=hs;have he:zlX n o (ma,mb)=mb:=by unfold zlX;simp[hs]
      exact Map
    ·generalize hmid:zlX n o (ma,mb)=o2 at*;have HM:=zHi hmid;clear hmid;cases hs:zae mb n
     ·have aY:(mb.toList==n.toList)=false:=hs;have HE:Hid (spSt n o (ma,mb)=o2):=by show _=_;unfold spSt;rw[HM.o];simp[hs]
      exact MaK
     ·have aY:(mb.toList==n.toList)=true:=hs;have HE:Hid (spSt n o (ma,mb)=ma):=by show _=_;unfold spSt;simp[hs]
      exact MaK
    ·go_wp2_with fail
     go_round
     case rel=>exact⟨k+1,_,am.o,by go_num,rfl,by first|exact True.intro|rfl,zHi av.o.symm⟩
     case measure=>have:=am.o;simp only[intOf];omega
  ·have ar:¬(k:Int)<(ms.length:Int):=Mcu;have hx:=HX.o;rw[List.take_of_length_le Mcu]at hx;have tC:=zHi (fun W h=>ic.o o W h);cases hd:dd.any (zae o)
   ·have HE:Hid (zfX ms dd n=o):=by show _=_;unfold zfX;rw[<-hx,hd];rfl
    exact Mas
   ·have HE:Hid (zfX ms dd n=⟨#[]⟩):=by show _=_;unfold zfX;rw[<-hx,hd];rfl
    exact Mas
end
section
variable {P:Program} {ops:Array Oper} {md:Region.Mode} {w₀:World}
def grow(P:Program)(o:Oper)(a:Act)(w₀:World)(K:Act->Prop):Prop:= ∃v,(∀z,o.quietAt P a (fun w'=>∃z',w'=(w₀.ext z).ext z') (w₀.ext z) v)/\K (a.put o.dst v)
def zgA(P:Program)(ops:Array Oper)(w₀:World)(Q:Act->Prop):List Oper->Act->Prop
 | [],a=>Q a
 |o::rest,a=>if Region.wanted o (yielded ops a.tmps)then grow P o a w₀ (zgA P ops w₀ Q rest)else zgA P ops w₀ Q rest (a.put o.dst undef)
theorem zfB{Q:Act->Prop}{a:Act}(h:Q a):zgA P ops w₀ Q [] a:=h
theorem zeN{Q:Act->Prop}{a:Act}{o:Oper}{rest:List Oper}
 (h:∀K:Act->Prop,(∀a,zgA P ops w₀ Q rest a->K a)->if Region.wanted o (yielded ops a.tmps)then grow P o a w₀ K else K (a.put o.dst undef)):zgA P ops w₀ Q (o::rest) a:=
 h _ (fun _ h=>h)
def YieldsG(P:Program)(ops:Array Oper)(w₀:World)(o:Oper)(v:Value)(a:Act):Prop:=
 (Region.wanted o (yielded ops a.tmps)=true/\∀z,o.quietAt P a (fun w'=>∃z',w'=(w₀.ext z).ext z') (w₀.ext z) v)\/(Region.wanted o (yielded ops a.tmps)=false/\v=undef)
theorem YieldsG.put{oi oj:Oper}{v u:Value}{a:Act}(h1:∀d,oi.dst=some d->d∉oj.looksAt ops)(DY:∀cs b,oj.op≠ .select cs b)(h:YieldsG P ops w₀ oj u (a.put oi.dst v)):YieldsG P ops w₀ oj u a:=by
 unfold YieldsG Oper.quietAt at*;rw[wanted_put oj a oi.dst v h1,execOp_put oj DY a oi.dst v h1]at h;exact h
theorem YieldsG.put'{oi oj:Oper}{v u:Value}{a:Act}(h1:∀d,oi.dst=some d->d∉oj.looksAt ops)(DY:∀cs b,oj.op≠ .select cs b)(h:YieldsG P ops w₀ oj u a):YieldsG P ops w₀ oj u (a.put oi.dst v):=by
 unfold YieldsG Oper.quietAt at*;rw[wanted_put oj a oi.dst v h1,execOp_put oj DY a oi.dst v h1];exact h
theorem zfI{i:Nat}{o:Oper}{v:Value}{a:Act}{K:Act->World->Prop}{Q:Exit->Act->World->Prop}{z:Ez}(hi:ops[i]?=some o)(hy:YieldsG P ops w₀ o v a)(hK:∀z',K (a.put o.dst v) ((w₀.ext z).ext z')):wpOp P ops Q i K a (w₀.ext z):=by
 have Co:K (a.put o.dst v) (w₀.ext z):=by
  have:=hK ⟨#[],(w₀.ext z).drawn⟩;simpa[World.ext]using this
 unfold wpOp;simp only[hi];rcases hy with⟨hw,hv⟩|⟨hw,rfl⟩
 ·rw[if_pos hw];refine .inl ?_;have h3:=hv z;unfold Oper.quietAt at h3;unfold Oper.wp;generalize(execOp a.eval o).run P (w₀.ext z)=r at*;cases r with
  |ok n w'=>
   cases n<;>simp only[Oper.quietUpon]at h3<;>simp only[Oper.upon]
   case value u=>obtain⟨e1,e2⟩:=h3;rw[e1,e2];exact Co
   case skip=>obtain⟨e1,e2⟩:=h3;rw[e1,<-e2];exact Co
   case enter f args=>
    obtain⟨e1,hc⟩:=h3;rw[e1];exact hc.mono fun e w'' ⟨he,z',E5⟩=>by subst he E5;exact hK z'
  |halt x w'=>simp only[Oper.quietUpon]at h3
 ·rw[if_neg (by rw[hw];exact Bool.false_ne_true)];exact Co
def zfY(P:Program)(md:Region.Mode)(ops:Array Oper)(w₀:World)(n:Nat)(L:Array Bool->Act->Prop):Nat->Array Bool->Act->Prop
 |0,listed,a=>L listed a
 |f+1,listed,a=>(∃i∈Region.ready md ops listed,i<n)/\∀i∈Region.ready md ops listed,i<n->∃o v,ops[i]?=some o/\YieldsG P ops w₀ o v a/\zfY P md ops w₀ n L f (listed.setIfInBounds i true) (a.put o.dst v)
theorem zkM{n i:Nat}{oi:Oper}{v:Value}{L:Array Bool->Act->Prop}(hi:ops[i]?=some oi)(dE:∀(j:Nat) (o:Oper) cs b,ops[j]?=some o->o.op≠ .select cs b)(aJ:i<n)
 (jJ:∀listed a,L listed a->∀j∈Region.ready md ops listed,n<=j):
 ∀(f:Nat) (listed:Array Bool) (a:Act),
  (∀j oj,ops[j]?=some oj->j≠i->listed.getD j true=false->(∀e∈oj.after,Region.binds md e=true->e.on≠i)->oi.apart ops oj=true)->
  i∈Region.ready md ops listed->YieldsG P ops w₀ oi v a->
  zfY P md ops w₀ n L f (listed.setIfInBounds i true) (a.put oi.dst v)->zfY P md ops w₀ n L (f+1) listed a:=by
 intro f;induction f with
 |zero=>
  intro listed a _ hr hy H;refine⟨⟨i,hr,aJ⟩,fun j hj Gl=>?_⟩;by_cases cr:j=i
  ·subst cr;exact⟨oi,v,hi,hy,H⟩
  ·have:=jJ _ _ H j (ready_mono hj cr);omega
 |succ f ih=>
  intro listed a dw hr hy H;refine⟨⟨i,hr,aJ⟩,fun j hj Gl=>?_⟩;by_cases cr:j=i
  ·subst cr;exact⟨oi,v,hi,hy,H⟩
  ·obtain⟨oj,u,iP,LN,Hj⟩:=H.2 j (ready_mono hj cr) Gl;obtain⟨kr,oj',yt,aU⟩:=mem_ready.1 hj;rw[iP]at yt;cases yt;have eb:=(mem_ready.1 hr).1;have mQ:∀e∈oj.after,Region.binds md e=true->e.on≠i:=fun e he hb Ax=>by
    have h1:=aU e he hb;rw[Ax,getD_both eb]at h1;cases h1
   obtain⟨h1,h2,h3⟩:=Oper.apart_spec (dw j oj iP cr kr mQ);refine⟨oj,u,iP,LN.put h1 (fun cs b=>dE j oj cs b iP),?_⟩;refine ih (listed.setIfInBounds j true) (a.put oj.dst u) ?_ (ready_mono hr (Ne.symm cr)) (hy.put' h3 (fun cs b=>dE i oi cs b hi)) ?_
   ·intro k ok hk ar eb dl;exact Mak
   ·rw[Array.setIfInBounds_comm _ _ cr,<-Act.put_comm a v u h2];exact Hj
def zeW(md:Region.Mode)(ops:Array Oper):Nat->Nat->Array Bool->Bool
 |0,k,listed=>decide (Region.ready md ops listed=[k])&&decide (Region.ready md ops (listed.setIfInBounds k true)=[k+1])&&decide (Region.ready md ops ((listed.setIfInBounds k true).setIfInBounds (k+1) true)=[])
 |f+1,k,listed=>(Region.ready md ops listed).contains k&&Region.free md ops listed k&&zeW md ops f (k+1) (listed.setIfInBounds k true)
def letB(md:Region.Mode)(ops:Array Oper)(n:Nat):Bool:=
 decide (ops.size=n+2)&&Region.noSelect ops&&
 (match ops[n]? with
  |none=>false
  |some al=>al.guard.isNone&&al.after.isEmpty&&(List.range n).all fun j=>match ops[j]? with
   |none=>false
   |some oj=>al.apart ops oj&&oj.after.all fun e=>e.on != n)&&
 (match ops[n+1]? with
  |none=>false
  |some st=>st.guard.isNone&&(List.range (n+1)).all fun j=>st.after.any fun e=>Region.binds md e&&e.on==j)&&
 zeW md ops n 0 (Array.replicate ops.size false)
theorem ziQ{n:Nat}{Lq:Act->Prop}(dE:Region.noSelect ops=true):
 ∀(l:List Oper) (k:Nat) (listed:Array Bool) (a:Act),(∀j,j<l.length->l[j]?=ops[k+j]?)->k+l.length=n->
 zeW md ops l.length k listed=true->zgA P ops w₀ Lq l a->
 zfY P md ops w₀ n (fun listed' a'=>zeW md ops 0 n listed'=true/\Lq a') l.length listed a
 | [],k,listed,a,_,hk,hB,h=>by
   have:k=n:=by simpa using hk
   subst this;exact⟨hB,h⟩
 |o::l,k,listed,a,hl,hk,hB,h=>by
  have h0:ops[k]?=some o:=by simpa using(hl 0 Mcx).symm
  simp only[List.length_cons,zeW,Bool.and_eq_true]at hB;obtain⟨⟨hr,hf⟩,eC⟩:=hB;have jq:k<n:=by simp only[List.length_cons]at hk;omega
  have cy:k∈Region.ready md ops listed:=by simpa using hr
  obtain⟨v,hy,hK⟩:∃v,YieldsG P ops w₀ o v a/\zgA P ops w₀ Lq l (a.put o.dst v):=by
   unfold zgA at h;by_cases hw:Region.wanted o (yielded ops a.tmps)=true
   ·rw[if_pos hw]at h;obtain⟨v,h1,h2⟩:=h;exact⟨v,.inl ⟨hw,h1⟩,h2⟩
   ·rw[if_neg hw]at h;exact⟨undef,.inr ⟨by simpa using hw,rfl⟩,h⟩
  exact zkM h0 (Region.noSelect_spec dE) jq (fun listed' a' hL j hj=>by
   have h1:=hL.1;simp only[zeW,Bool.and_eq_true,decide_eq_true_eq]at h1;rw[h1.1.1]at hj;have:j=n:=by simpa using hj
   omega) l.length listed a (Region.free_spec h0 hf) cy hy
   (ziQ dE l (k+1) _ _ (fun j hj=>by have:=hl (j+1) Mcz;simpa[Nat.add_assoc,Nat.add_comm 1 j]using this) (by simp only[List.length_cons]at hk;omega) eC hK)
theorem alloc_ext(w:World)(o:Obj):∃z,w.alloc o=w.ext z:=zaZ (zac (Below.refl _ _) o)
theorem zdI{id:Nat}{Q:Exit->Act->World->Prop}{a:Act}{w:World}{l:List Oper}(n:Nat)(al st:Oper)(obj obj':Obj)(hm:P.follows .mixedOrders=true)(hB:letB .any l.toArray n=true)
 (jI:l[n]?=some al)(ao:l[n+1]?=some st)
 (hrun:∀(a:Act) (W:World),(execOp a.eval al).run P W=.ok (.value (.pointer (some ⟨W.heap.size,0,none⟩))) (W.alloc obj))
 (mF:zgA P l.toArray w (fun aF=>(∀W B,W.heap[B]?=some obj->∃W',(execOp (aF.put al.dst (.pointer (some ⟨B,0,none⟩))).eval st).run P W=.ok .skip W'/\W'.heap[B]?=some obj'/\W.grownBy W' (some B))/\
   (∀B W,(∃z,W=w.ext z)->w.heap.size<=B->W.heap[B]?=some obj'->Q .normal ((aF.put al.dst (.pointer (some ⟨B,0,none⟩))).put st.dst undef) W)) (l.take n) a):(Code.region id l.toArray true).wp P Q a w:=by
 generalize hLq:(fun aF:Act=>(∀W B,W.heap[B]?=some obj->∃W',(execOp (aF.put al.dst (.pointer (some ⟨B,0,none⟩))).eval st).run P W=.ok .skip W'/\W'.heap[B]?=some obj'/\W.grownBy W' (some B))/\
  (∀B W,(∃z,W=w.ext z)->w.heap.size<=B->W.heap[B]?=some obj'->Q .normal ((aF.put al.dst (.pointer (some ⟨B,0,none⟩))).put st.dst undef) W))=Lq at mF
 simp only[letB,Bool.and_eq_true,decide_eq_true_eq]at hB;obtain⟨⟨⟨⟨hsz,dE⟩,cA⟩,bE⟩,xR⟩:=hB;have wZ:l.toArray[n]?=some al:=by simpa using jI
 have sZ:l.toArray[n+1]?=some st:=by simpa using ao
 rw[wZ]at cA;rw[sZ]at bE;simp only[Bool.and_eq_true,List.all_eq_true,List.mem_range,Option.isNone_iff_eq_none]at cA bE;obtain⟨⟨bz,haf⟩,cA⟩:=cA;obtain⟨cj,bE⟩:=bE;have yV:=Region.noSelect_spec dE;generalize hops:l.toArray=ops at*;have cw:(l.take n).length=n:=by
  have:l.length=n+2:=by rw[<-hsz,<-hops];simp
  simp;omega
 have H:=ziQ (md:=.any) (n:=n) dE (l.take n) 0 _ a (fun j hj=>by
  have sD:j<n:=by rw[cw]at hj;exact hj
  rw[<-hops];simp[sD]) (by simpa using cw) (by rw[cw];exact xR) mF
 rw[cw,hsz]at H;refine wp_region_any hm ?_;rw[hsz];have au:(Array.replicate (n+2) false).size=n+2:=Mcx;have ut:(Array.replicate (n+2) false).getD n true=false:=Mcx;have cx:(Array.replicate (n+2) false).getD (n+1) true=false:=Mcx;have uA:({w with drawn:=w.drawn+1}:World)=w.ext ⟨#[],w.drawn+1⟩:=by simp[World.ext]
 rw[uA];generalize(⟨#[],w.drawn+1⟩:Ez)=z0;generalize jr:Array.replicate (n+2) false=listed0 at*;clear jr mF xR uA;have rR:∀j oj,j<n->ops[j]?=some oj->al.apart ops oj=true/\∀e∈oj.after,e.on≠n:=fun j oj hj iP=>by
  have:=cA j hj;rw[iP]at this;simp only[Bool.and_eq_true,Array.all_eq_true',bne_iff_ne,ne_eq]at this;exact⟨this.1,fun e he=>this.2 e he⟩
 have qi:∀(listed:Array Bool) (j:Nat),j<n+1->listed.getD j true=false->n+1∉Region.ready .any ops listed:=fun listed j hj eb hr=>by
  obtain⟨_,o,ho,aU⟩:=mem_ready.1 hr;rw[sZ]at ho;cases ho;obtain⟨e,he,hb⟩:=Array.any_eq_true'.1 (bE j hj);simp only[Bool.and_eq_true,beq_iff_eq]at hb;have:=aU e he hb.1;rw[hb.2,getD_both eb]at this;cases this
 have ae:∀(listed:Array Bool) (j:Nat),j∈Region.ready .any ops listed->j<n\/j=n\/j=n+1:=fun listed j hj=>by
  obtain⟨_,o,ho,_⟩:=mem_ready.1 hj;have:=(Array.getElem?_eq_some_iff.1 ho).1;omega
 have E7:∀t,Region.wanted al (yielded ops t)=true:=fun t=>by simp[Region.wanted,bz]
 have E9:∀t,Region.wanted st (yielded ops t)=true:=fun t=>by simp[Region.wanted,cj]
 have last:∀(listed:Array Bool) (aF:Act) (z:Ez) (B:Nat),Lq aF->zeW .any ops 0 n listed=true->w.heap.size<=B->(w.ext z).heap[B]?=some obj->
  wpAny P .any ops Q 1 (listed.setIfInBounds n true) (aF.put al.dst (.pointer (some ⟨B,0,none⟩))) (w.ext z):=fun listed aF z B hq hL eS hb=>by
  rw[<-hLq]at hq;obtain⟨hstore,h⟩:=hq;simp only[zeW,Bool.and_eq_true,decide_eq_true_eq]at hL;refine⟨fun h0=>(by rw[hL.1.2]at h0;cases h0),fun i hi=>?_⟩;rw[hL.1.2]at hi;have aJ:i=n+1:=by simpa using hi
  subst aJ;unfold wpOp;simp only[sZ];rw[if_pos (E9 _)];refine .inl ?_;obtain⟨W',hr,cK,dB⟩:=hstore _ _ hb;unfold Oper.wp;rw[hr];refine⟨hL.2,h B W' ?_ eS cK⟩;exact zaZ ((zao w z).grown dB (Below.size (zao w z)) (fun k hk=>by cases hk;exact eS))
 have modeB:∀(f:Nat) (listed:Array Bool) (a:Act) (z:Ez) (B:Nat),listed.getD n true=false->w.heap.size<=B->(w.ext z).heap[B]?=some obj->
  zfY P .any ops w n (fun listed' a'=>zeW .any ops 0 n listed'=true/\Lq a') f listed a->
  wpAny P .any ops Q (f+1) (listed.setIfInBounds n true) (a.put al.dst (.pointer (some ⟨B,0,none⟩))) (w.ext z):=by
  intro f;induction f with
  |zero=>
   intro listed a z B _ eS hb hH;exact last listed a z B hH.2 hH.1 eS hb
  |succ f ih=>
   intro listed a z B eb eS hb hH;obtain⟨⟨i0,eX,xG⟩,aU⟩:=hH;have xF:=ready_mono eX (show i0≠n by omega);refine⟨fun h0=>(by rw[h0]at xF;cases xF),fun i hi=>?_⟩;have aJ:i≠n:=by
    rintro rfl;have:=(mem_ready.1 hi).1;have hs:i<listed.size:=by
     rcases Nat.lt_or_ge i listed.size with h|h
     ·exact h
     ·simp[Array.getElem?_eq_none h]at eb
    simp[Array.getElem?_setIfInBounds,hs]at this
   rcases ae _ i hi with ae|ae|ae
   ·obtain⟨hu,oi,yq,CQ⟩:=mem_ready.1 hi;obtain⟨nF,dl⟩:=rR i oi ae yq
    have hr:i∈Region.ready .any ops listed:=mem_ready.2 ⟨by rw[getD_set_ne true (Ne.symm aJ)]at hu;exact hu,oi,yq,fun e he hb=>by
     have:=CQ e he hb;rw[getD_set_ne false (Ne.symm (dl e he))]at this
     exact this⟩
    obtain⟨o,v,ho,hy,wt⟩:=aU i hr ae;rw[yq]at ho;cases ho;obtain⟨h1,h2,h3⟩:=Oper.apart_spec nF;refine zfI yq (hy.put' h1 (fun cs b=>yV i oi cs b yq)) fun z'=>?_
    rw[<-Array.setIfInBounds_comm _ _ aJ,Act.put_comm a _ v h2,zhV];refine ih _ _ _ B (by rw[getD_set_ne true aJ];exact eb) eS ?_ wt;rw[<-zhV,zcO _ _ _ (Array.getElem?_eq_some_iff.1 hb).1];exact hb
   ·exact absurd ae aJ
   ·subst ae;have Lt:(listed.setIfInBounds n true).getD i0 true=false:=by rw[getD_set_ne true Mcu];exact(mem_ready.1 eX).1
    exact absurd hi (qi _ i0 Mcu Lt)
 have modeA:∀(f:Nat) (listed:Array Bool) (a:Act) (z:Ez),listed.getD n true=false->
  zfY P .any ops w n (fun listed' a'=>zeW .any ops 0 n listed'=true/\Lq a') f listed a->
  wpAny P .any ops Q (f+2) listed a (w.ext z):=by
  have make:∀(f:Nat) (listed:Array Bool) (a:Act) (z:Ez),listed.getD n true=false->zfY P .any ops w n (fun listed' a'=>zeW .any ops 0 n listed'=true/\Lq a') f listed a->
   wpOp P ops Q n (wpAny P .any ops Q (f+1) (listed.setIfInBounds n true)) a (w.ext z):=fun f listed a z eb hH=>by
   unfold wpOp;simp only[wZ];rw[if_pos (E7 _)];refine .inl ?_;unfold Oper.wp;rw[hrun];obtain⟨z',LO⟩:=alloc_ext (w.ext z) obj;have hb:=heap_alloc_new (w.ext z) obj;have oZ:w.heap.size<=(w.ext z).heap.size:=by rw[zag];omega
   show wpAny P .any ops Q (f+1) (listed.setIfInBounds n true) (a.put al.dst (.pointer (some ⟨(w.ext z).heap.size,0,none⟩))) ((w.ext z).alloc obj);generalize(w.ext z).heap.size=B at*;rw[LO,zhV]at hb⊢;exact modeB f listed a _ B eb oZ hb hH
  intro f;induction f with
  |zero=>
   intro listed a z eb hH;have hL:=hH.1;simp only[zeW,Bool.and_eq_true,decide_eq_true_eq]at hL;refine⟨fun h0=>(by rw[hL.1.1]at h0;cases h0),fun i hi=>?_⟩;rw[hL.1.1]at hi;have aJ:i=n:=by simpa using hi
   subst aJ;exact make 0 listed a z eb hH
  |succ f ih=>
   intro listed a z eb hH;obtain⟨⟨i0,eX,xG⟩,aU⟩:=hH;refine⟨fun h0=>(by rw[h0]at eX;cases eX),fun i hi=>?_⟩;rcases ae _ i hi with ae|ae|ae
   ·obtain⟨o,v,ho,hy,wt⟩:=aU i hi ae;refine zfI ho hy fun z'=>?_
    rw[zhV];exact ih _ _ _ (by rw[getD_set_ne true Mcu];exact eb) wt
   ·subst ae;exact make (f+1) listed a z eb ⟨⟨i0,eX,xG⟩,aU⟩
   ·subst ae;exact absurd hi (qi _ i0 Mcu (mem_ready.1 eX).1)
 exact modeA n listed0 a z0 ut H
end
theorem quietg{P:Program}{f:FuncId}{args:Array Value}{W:World}{v:Value}(h:Calls P f args W (Ret W v)):Calls P f args W fun e w''=>e=.returned v/\∃z,w''=W.ext z:=h
