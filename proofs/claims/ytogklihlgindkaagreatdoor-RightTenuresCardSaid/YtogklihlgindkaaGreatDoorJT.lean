import Derived.Test.YtogklihlgindkaaGreatDoorJB
set_option linter.all false
set_option maxRecDepth 100000
set_option maxHeartbeats 4000000
namespace Go.Proofs.YtogklihlgindkaaGreatDoor
open Go.RowKit
attribute [local go_sem] World.cell?_alloc_mark zaf za3 zam za6 zat zau zav zaw zax zay zaz
attribute [local go_sem] zao zac
structure Found (s:St) (nm:ByteArray) (out xs:List ByteArray):Prop where
 nd:out.Nodup
 desc:∀n∈out,Desc s nm n
 from':∀x∈xs,x=nm\/x∈out
 seen:∀x,(x=nm\/x∈out)->x∈xs\/∀c∈zaj s x,c∈out
structure Look (s:St) (nm x:ByteArray) (j:Nat) (out xs:List ByteArray):Prop where
 nd:out.Nodup
 desc:∀n∈out,Desc s nm n
 from':∀x∈xs,x=nm\/x∈out
 seen:∀y,(y=nm\/y∈out)->y∈xs\/y=x\/∀c∈zaj s y,c∈out
 mine:x=nm\/x∈out
 done:∀c∈(zaj s x).take j,c∈out
def znd(s:St)(nm:ByteArray):Found s nm [] [nm]:=⟨List.nodup_nil,by simp,by simp,λx hx=> .inl (by simpa using hx)⟩
variable{s:St}{nm x:ByteArray}{out xs:List ByteArray}
def found_pop(h:Found s nm out (x::xs)):Look s nm x 0 out xs:=
 ⟨h.nd,h.desc,λy hy=>h.from' y (by simp[hy]),λy hy=>by
   rcases h.seen y hy with h1|h1
   ·rcases List.mem_cons.1 h1 with rfl|h1
    ·exact .inr (.inl rfl)
    ·exact .inl h1
   ·exact .inr (.inr h1),h.from' x McV,by simp⟩
def look_end(h:Look s nm x (zaj s x).length out xs):Found s nm out xs:=
 ⟨h.nd,h.desc,h.from',λy hy=>by
   rcases h.seen y hy with h1|rfl|h1
   ·exact .inl h1
   ·exact .inr λc hc=>h.done c MdY
   ·exact .inr h1⟩
variable{j:Nat}
def look_old(h:Look s nm x j out xs)(hj:j<(zaj s x).length)(hc:(zaj s x)[j]∈out):Look s nm x (j+1) out xs:=
 ⟨h.nd,h.desc,h.from',h.seen,h.mine,λc aE=>by
   rw[List.take_succ_eq_append_getElem hj]at aE;rcases List.mem_append.1 aE with h1|h1
   ·exact h.done c h1
   ·rw[List.mem_singleton.1 h1];exact hc⟩
def zop(h:Look s nm x j out xs)(hj:j<(zaj s x).length)(hc:(zaj s x)[j]∉out):Look s nm x (j+1) (out++[(zaj s x)[j]]) (xs++[(zaj s x)[j]]):=by
 have bm:(zaj s x)[j]∈zaj s x:=List.getElem_mem _;refine⟨?_,λn hn=>?_,λy hy=>?_,λy hy=>?_,?_,λc aE=>?_⟩
 ·exact List.nodup_append.2 ⟨h.nd,by simp,λa ha b hb e=>by rw[List.mem_singleton.1 hb]at e;exact hc (e▸ha)⟩
 ·rcases List.mem_append.1 hn with h1|h1
  ·exact h.desc n h1
  ·rw[List.mem_singleton.1 h1];rcases h.mine with rfl|hm
   ·exact zf2 bm
   ·exact zim (h.desc x hm) bm
 ·rcases List.mem_append.1 hy with h1|h1
  ·rcases h.from' y h1 with h2|h2
   ·exact .inl h2
   ·exact .inr (by simp[h2])
  ·exact .inr (by simp[List.mem_singleton.1 h1])
 ·rcases hy with hy|hy
  ·rcases h.seen y (.inl hy)with h1|h1|h1
   ·exact .inl (by simp[h1])
   ·exact .inr (.inl h1)
   ·exact .inr (.inr λc hc=>by simp[h1 c hc])
  ·rcases List.mem_append.1 hy with h1|h1
   ·rcases h.seen y (.inr h1)with h2|h2|h2
    ·exact .inl (by simp[h2])
    ·exact .inr (.inl h2)
    ·exact .inr (.inr λc hc=>by simp[h2 c hc])
   ·exact .inl (by simp[List.mem_singleton.1 h1])
 ·rcases h.mine with h1|h1
  ·exact .inl h1
  ·exact .inr (by simp[h1])
 ·rw[List.take_succ_eq_append_getElem hj]at aE;rcases List.mem_append.1 aE with h1|h1
  ·simp[h.done c h1]
  ·simp[List.mem_singleton.1 h1]
def found_end(h:Found s nm out []):∀n,n∈out↔Desc s nm n:=λn=>by
 refine⟨h.desc n,λhd=>zil (out:=λx=>x∈out) ?_ ?_ hd⟩
 ·intro c hc;rcases h.seen nm (.inl rfl)with h1|h1
  ·simp at h1
  ·exact h1 c hc
 ·intro x hx c hc;rcases h.seen x (.inr hx)with h1|h1
  ·simp at h1
  ·exact h1 c hc
def zk5{α:Type}[DecidableEq α]:∀ {a b:List α},a.Nodup->(∀x∈a,x∈b)->a.length<=b.length
 | [],_,_,_=>Nat.zero_le _
 |x::a,b,h,hs=>by
  have h':=List.nodup_cons.1 h;have hx:x∈b:=hs x McV;have h1:a.length<=(b.erase x).length:=zk5 h'.2 λy hy=>by
   have ai:y≠x:=λe=>h'.1 (e▸hy)
   exact(List.mem_erase_of_ne ai).2 (hs y (by simp[hy]))
  have h2:=List.length_erase_of_mem hx;have h3:0<b.length:=List.length_pos_of_mem hx;simp only[List.length_cons];omega
def out_few(hn:out.Nodup)(hd:∀n∈out,Desc s nm n):out.length<=s.children.length:=by
 have ER:∀n∈out,n∈s.children.map (·.2):=λn LH=>by
  have:∃y,(y,n)∈s.children:=by
   cases hd n LH with
   |single h=>exact⟨nm,zdw.1 h⟩
   |tail _ h=>exact⟨_,zdw.1 h⟩
  obtain⟨y,hy⟩:=this;exact List.mem_map.2 ⟨(y,n),hy,rfl⟩
 haveI:DecidableEq ByteArray:=λa b=>Classical.propDecidable _
 have:=zk5 hn ER;simpa using this
section
open Go.Shelf
def zk6(day mo:Int)(w:World)(hL:LensIn w)(h0:0<=day)(h1:day<=200000)(nv:0<=mo)(ct:mo<=12000):
 Calls Tryz.prog 141 #[.int .i64 day,.int .i64 mo] w (λe w'=>∃n er:Int,(er=0->zbR day mo=n/\0<=n)/\(er≠0->zbR day mo= -1)/\Ret w (.tuple #[.int .i64 n,.int .i64 er]) e w'):=by
 have cg:inR day 0 200000=true:=by simp[inR];omega
 have dY:inR mo (-12000) 12000=true:=by simp[inR];omega
 have HL:=zHi (zpb day mo w hL h0 h1 McS ct);go_enter Tryz.func141,Tryz.ntmps141
 go_wp2_with (first
  |(go_at_call 173;refine(zhf _ _).mono ?_;rintro e wq ⟨rfl,rfl⟩;unfold zba;rw[cg])
  |(go_at_call 174;refine(zeA _ _ _ _).mono ?_;rintro e wq ⟨rfl,rfl⟩;rw[dY])
  |(go_at_call 175;refine(HL.o).mono ?_;rintro e wq ⟨n,ok,h1,h2,rfl,z,rfl⟩;obtain⟨H1,H2⟩:=yH2 h1 h2;clear h1 h2;cases ok))
 all_goals go_ret2
 all_goals first
  |exact⟨0,2,by simp,λ_=>H2.o trivial,Ret.of rfl Bw⟩
  |exact⟨n,0,λ_=>H1.o trivial,by simp,Ret.of rfl Bw⟩
def zjR(day ys:Int)(w:World)(hL:LensIn w)(h0:0<=day)(h1:day<=200000)(nv:0<=ys)(ct:ys<=99):
 Calls Tryz.prog 108 #[.int .i64 day,.int .i64 ys] w (Ret w (.int .i64 (zcf day ys))):=by
 have HL:=zHi (zk6 day (12*ys) w hL h0 h1 McS McS);go_enter Tryz.func108,Tryz.ntmps108
 go_wp2_with (go_at_call 141;refine(HL.o).mono ?_;rintro e wq ⟨n,er,k1,k2,rfl,z,rfl⟩;obtain⟨H1,H2⟩:=yH2 k1 k2;clear k1 k2;by_cases lJ:er=0)
 all_goals go_ret
 all_goals first
  |exact Ret.of (zb7 (by unfold zcf;exact(H1.o (by first|trivial|exact lJ)).1.symm)) Bw
  |exact Ret.of (zb7 (by unfold zcf;exact(H2.o (by first|trivial|exact lJ)).symm)) Bw
end
def zcT(n:ByteArray)(f:Rat)(x:Parts×Bool):Parts×Bool:=
 (setP x.1 n (zbi (zah x.1 n+f)),x.2||bigQ (zah x.1 n+f))
mutual
def zbM(part:Rat):List Tree->Parts×Bool->Parts×Bool
 | [],x=>x
 |t::l,x=>zbM part l (zdS part t x)
def zdS(part:Rat):Tree->Parts×Bool->Parts×Bool
 | .leaf n,x=>zcT n part x
 | .node l,x=>zbM (zbi (part*(1/(l.length:Rat)))) l (x.1,x.2||bigQ (part*(1/(l.length:Rat))))
end
def zcy(l:List Tree)(f:Rat)(x:Parts×Bool):Parts×Bool:=
 zbM (zbi (f*(1/(l.length:Rat)))) l (x.1,x.2||bigQ (f*(1/(l.length:Rat))))
def zpc(part:Rat)(l:List Tree)(x:Parts×Bool):zdS part (.node l) x=zcy l part x:=by rw[zdS,zcy]
def zgt(part:Rat):∀(a b:List Tree) (x:Parts×Bool),zbM part (a++b) x=zbM part b (zbM part a x)
 | [],_,_=>by rw[List.nil_append,zbM]
 |t::a,b,x=>by rw[List.cons_append,zbM,zbM,zgt part a b]
def zdj(s:St)(frm:ByteArray):Parts->Parts×Bool->Rat->(Parts×Bool)×Rat
 | [],x,rest=>(x,rest)
 |p::l,x,rest=>if zdY s p.1 frm then zdj s frm l (zcT p.1 p.2 x) (rest-p.2)else zdj s frm l x rest
def zco(s:St)(n:ByteArray):ByteArray:=if zdY s (zaK s n) n then zaK s n else⟨#[]⟩
def zcj(s:St)(law:Law)(n:ByteArray):Parts×Bool:=
 let y:=zdj s n (zbv s n) ([],false) 1
 let sp:=zco s n
 let lines:=zb6 s law.stems n (zaX s) n
 if lines.isEmpty then zcT sp y.2 y.1 else
 if noB sp then zcy lines y.2 y.1 else
 zcy lines (y.2-y.2*Rat.divInt law.num law.den) (zcT sp (y.2*Rat.divInt law.num law.den) y.1)
mutual
def zf8{part:Rat}:∀ {l:List Tree} {x:Parts×Bool},x.2=true->(zbM part l x).2=true
 | [],x,h=>by rw[zbM];exact h
 |t::l,x,h=>by rw[zbM];exact zf8 (tree_mark h)
def tree_mark{part:Rat}:∀ {t:Tree} {x:Parts×Bool},x.2=true->(zdS part t x).2=true
 | .leaf n,x,h=>by rw[zdS];simp[zcT,h]
 | .node l,x,h=>by rw[zdS];exact zf8 (by simp[h])
end
variable{n:ByteArray}
def zgu{out:Parts}(h:GoodParts out){f:Rat}(hf:0<=f)(hb:bigQ (zah out n+f)=false):zcT n f (out,false)=(za5 out n f,false):=by
 unfold zcT;simp only[hb,Bool.or_self];rw[zok h hf hb]
def zk7(a:Rat)(n:Nat):a*(1/(n:Rat))=a/(n:Rat):=by
 rw[Rat.div_def,Rat.div_def,Rat.one_mul]
def zeB{a:Rat}(h:0<=a)(n:Nat):0<=a*(1/(n:Rat)):=by
 rw[zk7];exact zcH h Rat.natCast_nonneg
mutual
def zhg{each:Rat}(he:0<=each):∀ {l:List Tree} {out:Parts},GoodParts out->zaE out=false->
 (∀o,zbE each l out=some o->zbM each l (out,false)=(o,false))/\(zbE each l out=none->(zbM each l (out,false)).2=true)
 | [],out,hg,hs=>by
   rw[zbE,zbM];exact MbU
 |t::l,out,hg,hs=>by
  obtain⟨h1,h2⟩:=tree_same he (t:=t) hg hs;rw[zbE,zbM];cases ht:zeo each t out with
  |none=>
   refine⟨λo h=>by(cases h),λ_=>zf8 (h2 ht)⟩
  |some o1=>
   rw[h1 o1 ht];obtain⟨g1,g2⟩:=ziq he hg hs ht;exact zhg he g1 g2
def tree_same{each:Rat}(he:0<=each):∀ {t:Tree} {out:Parts},GoodParts out->zaE out=false->
 (∀o,zeo each t out=some o->zdS each t (out,false)=(o,false))/\(zeo each t out=none->(zdS each t (out,false)).2=true)
 | .leaf n,out,hg,hs=>by
   rw[zeo,zdS,zfh hg hs he];cases hb:bigQ (zah out n+each)
   ·rw[if_neg McV,zgu hg he hb];exact MbU
   ·rw[if_pos rfl];refine⟨λo h=>by(cases h),λ_=>by simp[zcT,hb]⟩
 | .node l,out,hg,hs=>by
   rw[zeo,zdS,zk7];cases hb:bigQ (each/(l.length:Rat))
   ·rw[if_neg McV,zfd hb];exact zhg (zcH he Rat.natCast_nonneg) hg hs
   ·exact Mca
end
def zpd(out:Parts)(n:ByteArray):za5 out n 0=out:=by cases out<;>simp[za5]
def zhh{out:Parts}(h:GoodParts out)(hs:zaE out=false)(n:ByteArray):zcT n 0 (out,false)=(out,false):=by
 rw[zgu h Rat.le_refl (by rw[Rat.add_zero];exact zcN n hs),zpd]
def zgv(k:Nat):zbi (0*(1/(k:Rat)))=0/\bigQ (0*(1/(k:Rat)))=false:=by
 rw[Rat.zero_mul];exact⟨zfd McU,by decide⟩
mutual
def zhi:∀ {l:List Tree} {out:Parts},GoodParts out->zaE out=false->zbM 0 l (out,false)=(out,false)
 | [],out,_,_=>by rw[zbM]
 |t::l,out,hg,hs=>by rw[zbM,tree_zero hg hs,zhi hg hs]
def tree_zero:∀ {t:Tree} {out:Parts},GoodParts out->zaE out=false->zdS 0 t (out,false)=(out,false)
 | .leaf n,out,hg,hs=>by rw[zdS,zhh hg hs]
 | .node l,out,hg,hs=>by
   rw[zdS,(zgv l.length).1,(zgv l.length).2];exact zhi hg hs
end
def zfU{l:List Tree}{out:Parts}(hg:GoodParts out)(hs:zaE out=false):zcy l 0 (out,false)=(out,false):=by
 rw[zcy,(zgv l.length).1,(zgv l.length).2];exact zhi hg hs
def zgw{s:St}{frm:ByteArray}:∀ {l out:Parts} {rest:Rat},(∀p∈l,0<p.2)->(∀p∈l,IsN 720720 p.2)->GoodParts out->(∀p∈out,IsN 720720 p.2)->
 zdj s frm l (out,false) rest=(((zcq s frm l out rest).1,false),(zcq s frm l out rest).2)
 | [],out,rest,_,_,_,_=>rfl
 |p::l,out,rest,hp,hN,hg,hn=>by
  have hl:=λq (hq:q∈l)=>hp q Md7
  have wI:=λq (hq:q∈l)=>hN q Md7
  rw[zdj,zcq];split
  ·have h0:0<=p.2:=by have:=hp p McV;grind
   have aH:=zcI (nm:=p.1) (hN p McV) hn;have hb:bigQ (zah out p.1+p.2)=false:=by
    rw[<-zfh hg (zc8 McU McU hn) h0];exact zc8 McU McU aH
   rw[zgu hg h0 hb];exact zgw hl wI (zby h0 hg) aH
  ·exact zgw hl wI hg hn
variable{law:Law}
def isN_law(hl:za8 16 law.num law.den=true):(∃d:Nat,0<d/\d<=16/\IsN d (Rat.divInt law.num law.den))/\0<=Rat.divInt law.num law.den/\Rat.divInt law.num law.den<=1:=by
 refine⟨?_,(zbl hl).2.2⟩;have hd:=hl;exact Mad
def zex{n:Nat}(h0:0<n)(h1:n<=1000000000){q:Rat}(h:IsN n q):bigQ q=false:=by
 have:=zkw h0 h;unfold bigQ;simp;omega
def zfV(hw:WillOk (zbv s n))(hl:za8 16 law.num law.den=true):
 (∀o,zcM s law n=some o->(zcj s law n)=(o,false))/\(zcM s law n=none->(zcj s law n).2=true):=by
 have jV:=zgw (s:=s) (frm:=n) (rest:=1) hw.pos hw.isN zd9 McV;have hg:=zir (s:=s) (frm:=n) (out:=[]) (rest:=1) hw.pos hw.isN hw.le zd9 McV (zha _);unfold zcM zcj zco;rw[jV];generalize zcq s n (zbv s n) [] 1=q at*;obtain⟨out,rest⟩:=q;dsimp only at*;obtain⟨g1,g2,g3,g4,g5⟩:=hg;have gs:zaE out=false:=zc8 McU McU g2;obtain⟨⟨ld,ld0,ld1,l1⟩,l2,l3⟩:=isN_law hl;generalize Rat.divInt law.num law.den=la at*;generalize(if zdY s (zaK s n) n=true then zaK s n else⟨#[]⟩)=sp at*;generalize zb6 s law.stems n (zaX s) n=tr at*;by_cases hr:rest=0
 ·subst hr;have hz:(0:Rat)-0=0:=Mdl;simp only[Rat.zero_mul,hz,beq_self_eq_true,if_true];refine⟨λo h=>?_,λh=>by cases h⟩;cases h;split
  ·exact zhh g1 gs sp
  ·split
   ·exact zfU g1 gs
   ·rw[zhh g1 gs,zfU g1 gs]
 ·have qy:(rest==0)=false:=by simpa using hr
  have uK:0<rest:=Mdl;simp only[qy,Bool.false_eq_true,if_false];cases he:tr.isEmpty
  ·simp only[Bool.false_eq_true,if_false];have xy:∀ {x:Parts} {r:Rat},GoodParts x->zaE x=false->0<=r->
    (∀o,(if bigQ (r/(tr.length:Rat))=true then none else zbE (r/(tr.length:Rat)) tr x)=some o->zcy tr r (x,false)=(o,false))/\((if bigQ (r/(tr.length:Rat))=true then none else zbE (r/(tr.length:Rat)) tr x)=none->(zcy tr r (x,false)).2=true):=λ{x r} hx br cx=>by
    rw[zcy,zk7];cases hb:bigQ (r/(tr.length:Rat))
    ·rw[if_neg McV,zfd hb];exact zhg (zcH cx Rat.natCast_nonneg) hx br
    ·exact Mca
   cases hn:noB sp
   ·simp only[Bool.false_eq_true,if_false];have ji:0<=rest*la:=Rat.mul_nonneg g4 l2;have lR:rest*la<=rest:=by
     have:=Rat.mul_nonneg g4 (show 0<=1-la by grind);grind
    have hb:bigQ (zah out sp+rest*la)=false:=by
     have h1:IsN (720720*ld) (zah out sp+rest*la):=by
      refine zkt (zlt ?_) (zku g3 l1);unfold zah;cases hf:out.find? (λp=>zae p.1 sp)with
      |none=>exact zkv _
      |some p=>exact g2 p (List.mem_of_find?_eq_some hf)
     exact zex McS McS h1
    rw[zgu g1 ji hb];have cj:=zby (n:=sp) ji g1;have bi:zaE (za5 out sp (rest*la))=false:=by rw[zfh g1 gs ji];exact hb
    by_cases hz:rest-rest*la=0
    ·rw[hz];simp only[beq_self_eq_true,if_true];exact⟨λo h=>by cases h;exact zfU cj bi,λh=>by cases h⟩
    ·have jp:(rest-rest*la==0)=false:=MdZ;simp only[jp,Bool.false_eq_true,if_false];exact xy cj bi Mdl
   ·simp only[if_true];have hz:rest-0=rest:=Mdl;simp only[hz,qy,Bool.false_eq_true,if_false];exact xy g1 gs g4
  ·simp only[if_true];have hb:bigQ (zah out sp+rest)=false:=by
    rw[<-zfh g1 gs g4];exact zc8 McU McU (zcI g3 g2)
   rw[zgu g1 g4 hb];exact MbU
noncomputable def zfj (laws:List Law) (upto:Int):List Deed->St->Nat->Int->St×Nat×Int
 | [],s,k,_=>(s,k,0)
 |d::l,s,k,last=>
  if zaH d==0&&decide (upto<d.day)then(s,k+(d::l).length,0)else
  if(zcn laws s k last d).2 != 0 then(s,k,(zcn laws s k last d).2)else zfj laws upto l (zcn laws s k last d).1 (k+1) d.day
def zdH{laws:List Law}{k:Nat}{last:Int}{d:Deed}(h:(zcn laws s k last d).2=0):zaH d=0/\k<60/\last<=d.day/\zcn laws s k last d=zbp laws s d:=by
 unfold zcn at h⊢;split at h
 ·rename_i hc
  have h:zaH d=0:=h;rw[h]at hc;exact absurd hc McU
 rename_i hc
 split at h
 ·simp at h
 rename_i hk
 split at h
 ·simp at h
 rename_i hl
 rw[if_neg hc,if_neg hk,if_neg hl];simp at hc hk hl;exact⟨hc,hk,hl,rfl⟩
def zjS{laws:List Law}{upto:Int}:∀ {ds:List Deed} {s told:St} {k:Nat} {last:Int},(zaR laws upto ds s told k last).2.2=0->upto<last->(zaR laws upto ds s told k last).1=told
 | [],s,told,k,last,_,_=>rfl
 |d::l,s,told,k,last,h,hl=>by
  rw[zaR]at h⊢;split at h
  ·exact MaZ
  ·rename_i hc
   rw[if_neg hc];have hn:=zdH (show(zcn laws s k last d).2=0 by simpa using hc);have hd:¬decide (d.day<=upto)=true:=McX;rw[if_neg hd]at h⊢;exact zjS h McS
def zl5{laws:List Law}{upto:Int}:∀ {ds:List Deed} {s:St} {k:Nat} {last:Int},(zaR laws upto ds s s k last).2.2=0->
 (zfj laws upto ds s k last).1=(zaR laws upto ds s s k last).1/\(zfj laws upto ds s k last).2.2=0
 | [],s,k,last,_=>⟨rfl,rfl⟩
 |d::l,s,k,last,h=>by
  rw[zaR]at h⊢;split at h
  ·exact MaZ
  ·rename_i hc
   rw[if_neg hc];have h0:(zcn laws s k last d).2=0:=MdY;have hn:=zdH h0;rw[zfj];by_cases hd:d.day<=upto
   ·have e1:decide (d.day<=upto)=true:=by simpa using hd
    have e2:¬(zaH d==0&&decide (upto<d.day))=true:=McX;rw[if_pos e1]at h⊢;rw[if_neg e2,if_neg hc];exact zl5 h
   ·have e1:¬decide (d.day<=upto)=true:=by simpa using hd
    have e2:(zaH d==0&&decide (upto<d.day))=true:=by simp[hn.1];omega
    rw[if_neg e1]at h⊢;rw[if_pos e2];exact⟨(zjS h McS).symm,rfl⟩
def zoq{laws:List Law}{upto:Int}(hu:200000<=upto):∀ {ds:List Deed} {s:St} {k:Nat} {last:Int},
 (zfj laws upto ds s k last).2=(zaR laws upto ds s s k last).2
 | [],s,k,last=>rfl
 |d::l,s,k,last=>by
  rw[zfj,zaR];have h1:¬(zaH d==0&&decide (upto<d.day))=true:=by
   intro h;simp only[Bool.and_eq_true,beq_iff_eq,decide_eq_true_eq]at h;have:=(ze8 h.1).day;omega
  rw[if_neg h1];split
  ·rfl
  ·rename_i hc
   have hn:=zdH (show(zcn laws s k last d).2=0 by simpa using hc);have:=(ze8 hn.1).day;rw[if_pos McX];exact zoq hu
