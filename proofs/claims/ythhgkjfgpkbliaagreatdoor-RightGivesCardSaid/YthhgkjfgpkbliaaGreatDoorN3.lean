import Derived.Test.YthhgkjfgpkbliaaGreatDoorS0
import Derived.Test.YthhgkjfgpkbliaaGreatDoorProg
import Derived.Test.YthhgkjfgpkbliaaGreatDoorChecked
import Derived.Test.YthhgkjfgpkbliaaGreatDoorK0
import Derived.ProofKit
import Derived.OpenShut
import Derived.ShutString
import Derived.Deep.Fields
import Derived.LaidMore
import Derived.Lay
import Derived.Stop.Joined
import Derived.Stop.LaidErr
import Derived.Shelf.Vars
set_option linter.all false
set_option maxRecDepth 100000
set_option maxHeartbeats 4000000
namespace Go.Proofs.YthhgkjfgpkbliaaGreatDoor
open Go.RowKit
theorem zeu{a b:Int}(h:0<b):(Rat.divInt a b).num=a/(Int.gcd a b:Int):=by
 rw[Rat.num_divInt,Int.gcd_comm b a,Int.sign_eq_one_of_pos h,Int.one_mul]
theorem zd0{a b:Int}(h:0<b):((Rat.divInt a b).den:Int)=b/(Int.gcd a b:Int):=by
 rw[Rat.den_divInt,if_neg (by omega),Int.gcd_comm b a];obtain⟨n,rfl⟩:∃n:Nat,b=n:=⟨b.toNat,by omega⟩
 simp
theorem zd1{a g:Int}(h:g∣a):a.tdiv g=a/g:=Int.tdiv_eq_ediv_of_dvd h
def za2(n:Int)(num den:Int):Bool:=(decide (1<=den)&&decide (den<=n))&&(decide (0<=num)&&decide (num<=den))&&Int.gcd num den==1
theorem zbo{n num den:Int}(h:za2 n num den=true):(Rat.divInt num den).num=num/\((Rat.divInt num den).den:Int)=den/\0<=Rat.divInt num den/\Rat.divInt num den<=1:=by
 unfold za2 at h;simp only[Bool.and_eq_true,decide_eq_true_eq,beq_iff_eq]at h;obtain⟨⟨⟨h1,h2⟩,h3,h4⟩,h5⟩:=h;have hb:0<den:=by omega
 have e1:(Rat.divInt num den).num=num:=by rw[zeu hb,h5];simp
 have e2:((Rat.divInt num den).den:Int)=den:=by rw[zd0 hb,h5];simp
 refine⟨e1,e2,?_,?_⟩
 ·rw[Rat.le_iff,e1];simp;omega
 ·rw[Rat.le_iff,e1,e2];simp;omega
theorem zmb(p q:Rat):p+q=Rat.divInt (p.num*q.den+q.num*p.den) (p.den*q.den):=by
 rw[Rat.add_def'];rfl
theorem zhT(p q:Rat):p-q=Rat.divInt (p.num*q.den-q.num*p.den) (p.den*q.den):=by
 rw[Rat.sub_def'];rfl
theorem zf9(p q:Rat):p*q=Rat.divInt (p.num*q.num) (p.den*q.den):=by
 rw[Rat.mul_def'];rfl
theorem zci(p:Rat):(0:Int)<p.den:=by have:=p.den_pos;omega
theorem ratI{n:Int}(h:n≠0):(n:Rat)≠0:=fun e=>h (Rat.intCast_inj.1 (by simpa using e))
theorem zmc(p q:Rat)(h:0<q):p/q=Rat.divInt (p.num*q.den) (p.den*q.num):=by
 have hq:0<q.num:=by have:=(Rat.lt_iff 0 q).1 h;simpa using this
 rw[Rat.divInt_eq_div];have h1:p=p.num/(p.den:Int):=by rw[<-Rat.divInt_eq_div,Rat.num_divInt_den]
 have h2:q=q.num/(q.den:Int):=by rw[<-Rat.divInt_eq_div,Rat.num_divInt_den]
 have a1:((p.den:Int):Rat)≠0:=by have:=zci p;exact ratI (by omega)
 have a2:((q.den:Int):Rat)≠0:=by have:=zci q;exact ratI (by omega)
 have a3:(q.num:Rat)≠0:=ratI (by omega);conv=>lhs;rw[h1,h2]
 rw[Rat.intCast_mul,Rat.intCast_mul];generalize(p.num:Rat)=x at*;generalize((p.den:Int):Rat)=y at*;generalize(q.num:Rat)=z at*;generalize((q.den:Int):Rat)=t at*;clear h1 h2;grind
structure Rec where
 kind:Int
 name:ByteArray
 other:ByteArray
 place:ByteArray
 day:Int
 til:Int
 num:Int
 den:Int
def Rec.cells(r:Rec):List Value:=[.int .i64 r.kind,.string r.name,.string r.other,.string r.place,.int .i64 r.day,.int .i64 r.til,.int .i64 r.num,.int .i64 r.den]
def zbu(n:Int):Bool:=inR n 0 200000
def noB(s:ByteArray):Bool:=s.toList.isEmpty
def zbw(s:ByteArray):Bool:=noB s||zaR s
def zbX(x:Rec):Int:=
 if !inR x.kind 0 4 then 15 else
 if !zbu x.day||!zbu x.til then 2 else
 if !zbw x.name||!zbw x.other||!zbw x.place then 4 else
 if noB x.name||(!noB x.other) != (x.kind==2)||(!noB x.place) != (x.kind==3||x.kind==4)then 3 else
 if(x.kind==2&&x.day != 0)||(x.kind != 4&&x.til != 0)||(x.kind != 3&&(x.num != 0||x.den != 0))then 3 else
 if x.kind==3&&(!inR x.den 1 12||!inR x.num 1 x.den||Int.gcd x.num x.den != 1)then 3 else
 if x.kind==4&&decide (x.til<=x.day)then 9 else 0
def zeZ{α:Type}(f:α->Int):List α->Int
 | []=>0
 |x::l=>if f x != 0 then f x else zeZ f l
def zev(l:List Rec):Int:=if decide (40<l.length)then 8 else zeZ zbX l
def zag(a b:ByteArray):Bool:=a.toList==b.toList
def zfa(a b:Rec):Bool:=
 if a.kind==1&&b.kind==1 then zag a.name b.name&&a.day != b.day else
 if a.kind==0&&b.kind==1 then zag a.name b.name&&decide (b.day<a.day)else
 if a.kind==1&&(b.kind==3||b.kind==4)then zag a.name b.name&&decide (a.day<b.day)else
 if a.kind==3&&b.kind==3 then zag a.name b.name&&zag a.place b.place&&a.day==b.day&&(a.num != b.num||a.den != b.den)else
 if a.kind==4&&b.kind==4 then !zag a.name b.name&&zag a.place b.place&&decide (max a.day b.day<min a.til b.til)else false
def zbq(a b:Rec):Bool:=if decide (b.kind<a.kind)then zfa b a else zfa a b
def zi2:List Rec->Bool
 | []=>false
 |x::l=>l.any (fun y=>zbq y x)||zi2 l
abbrev Parts:=List (ByteArray×Rat)
structure Law where
 frm:Int
 stems:Bool
 num:Int
 den:Int
structure RPart where
 name:ByteArray
 num:Int
 den:Int
structure Deed where
 kind:Int
 day:Int
 place:ByteArray
 frm:ByteArray
 to:List RPart
 cls:Int
 years:Int
structure Grave where
 place:ByteArray
 cls:Int
 fin:Int
 holders:Parts
 died:List ByteArray
structure St where
 children:List (ByteArray×ByteArray)
 marriages:List (ByteArray×ByteArray)
 dead:List ByteArray
 wills:List (ByteArray×Parts)
 renounce:List (ByteArray×ByteArray)
 graves:List Grave
def Law.cells(x:Law):List Value:=[.int .i64 x.frm,.bool x.stems,.int .i64 x.num,.int .i64 x.den]
def RPart.cells(x:RPart):List Value:=[.string x.name,.int .i64 x.num,.int .i64 x.den]
def zaa(x:ByteArray×Rat):List Value:=[.string x.1,.int .i64 x.2.num,.int .i64 x.2.den]
def zbm(a b:ByteArray):Bool:=Op.bytesLess a.toList b.toList
def zgE(before:Option Int)(x:Law):Int:=
 if !zbu x.frm then 2 else if !za2 16 x.num x.den then 3 else match before with
  |none=>0
  |some b=>if decide (x.frm<=b)then 9 else 0
def zfY:List Law->Option Int->Int
 | [],_=>0
 |x::l,b=>if zgE b x != 0 then zgE b x else zfY l (some x.frm)
def za7(l:List Law):Int:=if decide (10<l.length)then 8 else zfY l none
def zeroLaw:Law:=⟨0,false,0,1⟩
def zb3(l:List Law)(day:Int):Law:=(l.filter fun x=>decide (x.frm<=day)).getLast?.getD zeroLaw
def RPart.rat(p:RPart):Rat:=Rat.divInt p.num p.den
def zat(l:List RPart):Parts:=l.map fun p=>(p.name,p.rat)
def sumQ:Parts->Rat
 | []=>0
 |p::l=>p.2+sumQ l
def zda:List RPart->List ByteArray->Bool
 | [],_=>true
 |p::l,seen=>!seen.any (zag p.name)&&zda l (p.name::seen)
def zc1(shares all:Bool)(frm:ByteArray)(l:List RPart):Bool:=
 zda l []&&l.all (fun p=>!zag p.name frm)&&
 (if shares then l.all (fun p=>za2 16 p.num p.den&&p.num != 0)&&decide (sumQ (zat l)<=1)&&(!all||sumQ (zat l)==1)else l.all fun p=>p.num==0&&p.den==0)
def zkt(d:Deed):Bool:=
 (noB d.place != (d.kind==0||d.kind==1||d.kind==2||d.kind==3))&&(noB d.frm==(d.kind==0||d.kind==3))&&
 (d.kind==0||d.cls==0)&&(d.kind==0||d.kind==3||d.years==0)&&!(d.years==0&&(d.kind==3||(d.kind==0&&d.cls==2)))&&
 (if d.kind==0||d.kind==1||d.kind==4 then !d.to.isEmpty&&zc1 true (d.kind==0) d.frm d.to else
  if d.kind==5||d.kind==6||d.kind==7 then d.to.length==1&&zc1 false false d.frm d.to else d.to.isEmpty)
def za8(d:Deed):Int:=
 if !inR d.kind 0 8 then 15 else
 if !zbu d.day||!inR d.cls 0 4||!inR d.years 0 99 then 2 else
 if decide (8<d.to.length)then 8 else
 if !zbw d.place||!zbw d.frm||!d.to.all (fun p=>zaR p.name)then 4 else
 if !zkt d then 3 else 0
def za6:Parts->ByteArray->Rat->Parts
 | [],n,q=>if q==0 then[]else[(n,q)]
 |p::r,n,q=>if q==0 then p::r else if zbm p.1 n then p::za6 r n q else if zag p.1 n then(n,p.2+q)::r else(n,q)::p::r
def zab(l:Parts)(n:ByteArray):Rat:=((l.find? fun p=>zag p.1 n).map (·.2)).getD 0
def zaj(l:Parts)(n:ByteArray):Parts:=l.filter fun p=>!zag p.1 n
def bigQ(q:Rat):Bool:=decide (1000000000<(q.den:Int))
def zaC(l:Parts):Bool:=l.any fun p=>bigQ p.2
def zaK(s:St)(n:ByteArray):Bool:=s.dead.any (zag n)
def zaf(s:St)(n:ByteArray):List ByteArray:=(s.children.filter fun c=>zag c.1 n).map (·.2)
def zb8(s:St)(n:ByteArray):List ByteArray:=(s.children.filter fun c=>zag c.2 n).map (·.1)
def zaE(g:Grave)(day:Int):Bool:=!g.holders.isEmpty&&(decide (g.fin<0)||decide (day<g.fin))
def zaH(s:St)(place:ByteArray)(day:Int):Option Nat:=s.graves.findIdx? fun g=>zag g.place place&&zaE g day
def zdl(n:ByteArray):List (ByteArray×ByteArray)->ByteArray
 | []=>⟨#[]⟩
 |m::l=>if zag m.1 n then m.2 else if zag m.2 n then m.1 else zdl n l
def zbi(s:St)(n:ByteArray):ByteArray:=if zaK s (zdl n s.marriages.reverse)then⟨#[]⟩else zdl n s.marriages.reverse
def zgl(s:St)(n frm:ByteArray):Bool:=!noB n&&!zag n frm&&!zaK s n&&!s.renounce.any (fun r=>zag r.1 n&&zag r.2 frm)
def Desc(s:St)(a b:ByteArray):Prop:=Relation.TransGen (fun x y=>y∈zaf s x) a b
inductive Tree where
 |leaf (n:ByteArray)
 |node (l:List Tree)
def zbF(s:St)(stems:Bool)(frm:ByteArray):Nat->ByteArray->List Tree
 |0,_=>[]
 |f+1,n=>(zaf s n).filterMap fun c=>if zgl s c frm then some (.leaf c)else if stems&&!(zbF s stems frm f c).isEmpty then some (.node (zbF s stems frm f c))else none
mutual
def zcq(each:Rat):List Tree->Parts->Option Parts
 | [],out=>some out
 |x::l,out=>(zgm each x out).bind fun o=>zcq each l o
def zgm(each:Rat):Tree->Parts->Option Parts
 | .leaf n,out=>if zaC (za6 out n each)then none else some (za6 out n each)
 | .node l,out=>if bigQ (each/(l.length:Rat))then none else zcq (each/(l.length:Rat)) l out
end
def zc2(s:St)(frm:ByteArray):Parts->Parts->Rat->Parts×Rat
 | [],out,rest=>(out,rest)
 |p::l,out,rest=>if zgl s p.1 frm then zc2 s frm l (za6 out p.1 p.2) (rest-p.2)else zc2 s frm l out rest
def zbp(s:St)(n:ByteArray):Parts:=((s.wills.reverse.find? fun w=>zag w.1 n).map (·.2)).getD []
def zaX(s:St):Nat:=s.children.length+1
def zdZ(s:St)(law:Law)(n:ByteArray):Option Parts:=
 let(out,rest):=zc2 s n (zbp s n) [] 1
 if rest==0 then some out else
 let sp:=if zgl s (zbi s n) n then zbi s n else⟨#[]⟩
 let lines:=zbF s law.stems n (zaX s) n
 if lines.isEmpty then some (za6 out sp rest)else
 let own:=if noB sp then 0 else rest*Rat.divInt law.num law.den
 let out2:=if noB sp then out else za6 out sp own
 if rest-own==0 then some out2 else
 if bigQ ((rest-own)/(lines.length:Rat))then none else zcq ((rest-own)/(lines.length:Rat)) lines out2
def zbI(own:Rat):Parts->Parts->Option Parts
 | [],out=>some out
 |p::l,out=>if bigQ (own*p.2)then none else if zaC (za6 out p.1 (own*p.2))then none else zbI own l (za6 out p.1 (own*p.2))
def zhF(y:Int):Bool:=(y.tmod 4==0&&y.tmod 100 != 0)||y.tmod 400==0
def lensP:List Int:=[0,31,28,31,30,31,30,31,31,30,31,30,31]
def zaB(y m:Int):Int:=if m==2&&zhF y then 29 else lensP.getD m.toNat 0
def zlp(y:Int):Int:=y.tdiv 4-y.tdiv 100+y.tdiv 400
def zdF(y:Int):Nat->Int
 |0=>0
 |k+1=>zdF y k+zaB y (k+1)
def zaL(y:Int)(m:Nat):Int:=365*(y-1800)+zlp (y-1)-436+zdF y (m-1)
def zeA(day:Int):Nat->Int->Int
 |0,y=>y
 |f+1,y=>if decide (zaL (y+1) 1<=day)then zeA day f (y+1)else y
def zdt(day y:Int):Nat->Nat->Nat
 |0,m=>m
 |f+1,m=>if decide (m<12)&&decide (zaL y (m+1)<=day)then zdt day y f (m+1)else m
def zcR(day:Int):Int:=zeA day 10 (1800+day.tdiv 366)
def zbV(day:Int):Nat:=zdt day (zcR day) 12 1
def zct(day months:Int):Int:=
 let y:=zcR day
 let m:=zbV day
 let d:=day-zaL y m+1
 let n:=y*12+m-1+months
 let y2:=n/12
 let m2:=n%12+1
 if !inR y2 1800 2347 then-1 else
 let out:=zaL y2 m2.toNat+min d (zaB y2 m2)-1
 if zbu out then out else-1
def zc9(day years:Int):Int:=zct day (12*years)
def zfb(s:St)(l:List RPart):Bool:=l.any fun p=>zaK s p.name
def St.withGrave(s:St)(i:Nat)(g:Grave):St:= {s with graves:=s.graves.set i g}
def zbc(l:List RPart)(out:Parts):Parts:=l.foldl (fun o p=>za6 o p.name p.rat) out
def zdb(s:St)(d:Deed):St×Int:=
 if(zaH s d.place d.day).isSome then(s,13)else
 if zfb s d.to then(s,28)else
 if decide (0<d.years)&&decide (zc9 d.day d.years<0)then(s,2)else
 ({s with graves:=s.graves++[⟨d.place,d.cls,if decide (0<d.years)then zc9 d.day d.years else-1,zbc d.to [],[]⟩]},0)
def ze6:Grave:=⟨⟨#[]⟩,0,0,[],[]⟩
def zbj(s:St)(d:Deed):St×Int:=match zaH s d.place d.day with
 |none=>(s,6)
 |some i=>
  let g:=s.graves.getD i ze6
  let share:=zab g.holders d.frm
  let keeps:=share*(1-sumQ (zat d.to))
  if g.cls==4 then(s,15)else
  if share==0 then(s,19)else
  if zfb s d.to then(s,28)else
  if bigQ keeps then(s,8)else match zbI share (zat d.to) (za6 (zaj g.holders d.frm) d.frm keeps)with
   |none=>(s,8)
   |some out=>(s.withGrave i {g with holders:=out},0)
def zaY(s:St)(d:Deed):St×Int:=match zaH s d.place d.day with
 |none=>(s,6)
 |some i=>
  let g:=s.graves.getD i ze6
  let share:=zab g.holders d.frm
  if share==0 then(s,19)else
  let out:=(zaj g.holders d.frm).map fun p=>(p.1,p.2/(1-share))
  if zaC out then(s,8)else(s.withGrave i {g with holders:=out},0)
def zdm(s:St)(d:Deed):St×Int:=match zaH s d.place d.day with
 |none=>(s,6)
 |some i=>
  let g:=s.graves.getD i ze6
  if decide (g.fin<0)then(s,15)else
  if decide (zc9 g.fin d.years<0)then(s,2)else(s.withGrave i {g with fin:=zc9 g.fin d.years},0)
def zbO(d:Deed):ByteArray:=(d.to.map (·.name)).getD 0 ⟨#[]⟩
open Classical in
noncomputable def zcS (s:St) (d:Deed):St×Int:=
 if(zaf s d.frm).any (zag (zbO d))then(s,5)else
 if decide (2<=(zb8 s (zbO d)).length)then(s,16)else
 if decide (Desc s (zbO d) d.frm)then(s,25)else({s with children:=s.children++[(d.frm,zbO d)]},0)
def zbP(s:St)(d:Deed):St×Int:=
 if zaK s d.frm||zaK s (zbO d)then(s,28)else
 if s.renounce.any (fun r=>zag r.1 d.frm&&zag r.2 (zbO d))then(s,5)else({s with renounce:=s.renounce++[(d.frm,zbO d)]},0)
def zdU(s:St)(d:Deed):St×Int:=
 if zaK s d.frm||zaK s (zbO d)then(s,28)else
 if !noB (zbi s d.frm)||!noB (zbi s (zbO d))then(s,13)else({s with marriages:=s.marriages++[(d.frm,zbO d)]},0)
def zfA(s:St)(n:ByteArray)(day:Int)(i:Nat)(g:Grave):Bool:=zab g.holders n != 0&&zaH s g.place day==some i
def zcm(s:St)(n:ByteArray)(day:Int)(aI:Option Parts):Nat->List Grave->Option (List Grave)
 |_,[]=>some []
 |i,g::l=>
  if zfA s n day i g then(match aI with
   |none=>none
   |some h=>(zbI (zab g.holders n) h (zaj g.holders n)).bind fun out=>(zcm s n day aI (i+1) l).map fun r=> {g with holders:=out,died:=g.died++[n]}::r)
  else(zcm s n day aI (i+1) l).map fun r=>g::r
def zd2(laws:List Law)(s:St)(d:Deed):St×Int:=
 if zaK s d.frm then(s,28)else match zcm s d.frm d.day (zdZ s (zb3 laws d.day) d.frm) 0 s.graves with
  |none=>(s,8)
  |some gs=>({s with graves:=gs,dead:=s.dead++[d.frm]},0)
def zgF(s:St)(d:Deed):St×Int:=if zaK s d.frm then(s,28)else({s with wills:=s.wills++[(d.frm,zat d.to)]},0)
noncomputable def zaZ (laws:List Law) (s:St) (d:Deed):St×Int:=
 if d.kind==0 then zdb s d else if d.kind==1 then zbj s d else if d.kind==2 then zaY s d else if d.kind==3 then zdm s d else
 if d.kind==4 then zgF s d else if d.kind==5 then zbP s d else if d.kind==6 then zcS s d else if d.kind==7 then zdU s d else zd2 laws s d
def zbf:St:=⟨[],[],[],[],[],[]⟩
noncomputable def zb4 (laws:List Law) (s:St) (count:Nat) (last:Int) (d:Deed):St×Int:=
 if za8 d != 0 then(s,za8 d)else if decide (60<=count)then(s,8)else if decide (d.day<last)then(s,9)else zaZ laws s d
noncomputable def zax (laws:List Law) (upto:Int):List Deed->St->St->Nat->Int->St×Nat×Int
 | [],_,told,k,_=>(told,k,0)
 |d::l,s,told,k,last=>
  if(zb4 laws s k last d).2 != 0 then(told,k,(zb4 laws s k last d).2)else
  zax laws upto l (zb4 laws s k last d).1 (if decide (d.day<=upto)then(zb4 laws s k last d).1 else told) (k+1) d.day
noncomputable def zaz (laws:List Law) (ds:List Deed) (upto:Int):St×Nat×Int:=
 if za7 laws != 0 then(zbf,0,za7 laws)else zax laws upto ds zbf zbf 0 0
open Go.ChangeShapes Go.WideShapes Go.ChangeAt Go.Deep
theorem zku{α:Type}{Q:Nat->α->Prop}:∀n:Nat,(∀i,i<n->∃x,Q i x)->∃l:List α,l.length=n/\∀(i:Nat) (x:α),l[i]?=some x->Q i x
 |0,_=>⟨[],rfl,fun i x h=>by simp at h⟩
 |n+1,h=>by
  obtain⟨l,hl,hq⟩:=zku n (fun i hi=>h i (by omega));obtain⟨x,hx⟩:=h n (by omega);refine⟨l++[x],by simp[hl],fun i y hy=>?_⟩;by_cases hi:i<n
  ·rw[List.getElem?_append_left (by omega)]at hy;exact hq i y hy
  ·by_cases he:i=n
   ·subst he;rw[List.getElem?_append_right (by omega),hl]at hy;simp at hy;subst hy;exact hx
   ·rw[List.getElem?_append_right (by omega)]at hy;have:i-l.length≠0:=by omega
    obtain⟨m,hm⟩:=Nat.exists_eq_succ_of_ne_zero this;rw[hm]at hy;simp at hy
section
variable {H:Type} {enc:TypeId×Value->H} {P:Program} {w:World} {base:Nat} {spare:Nat->Bool} {held:Bool}
theorem zhU{α:Type}{f:α->List Value}{size:Nat}(hsz:0<size)(af:∀x,(f x).length=size){t e:TypeId}{fuel:Nat}{cs:List Value}{x:DataW H×List MemPlace}(ht:P.underlying t=some (.slice e))(hC:P.cellsOf e=size)
 (iq:∀(n:Nat) (cs:List Value) (y:DataW H×List MemPlace),DataW.trod enc P w base spare held n e cs=some y->∃s:α,cs=f s)(h:DataW.trod enc P w base spare held fuel t cs=some x):
 ∃(A:Option Addr) (n c:Nat) (xs:List α),cs=[.slice A n c]/\n=xs.length/\Sl w size f A xs/\xs.length<=c/\c<=maxLen:=by
 rcases open_slice ht h with⟨rfl,_⟩|⟨a,len,cap,m,n,D,Pl,rfl,_,hl,hm,cq,_,hi⟩
 ·exact⟨none,0,0,[],rfl,rfl,Sl.nil,Nat.le_refl _,Nat.zero_le _⟩
 ·have bF:len<=m:=by rw[cq];split<;>omega
  obtain⟨l,gO,hq⟩:=zku (Q:=fun i (s:α)=>∀j,j<size->w.cell? ((a.add (i*size)).add j)=(f s)[j]?) len (fun i fT=>by
   obtain⟨cs',hc,hr⟩:=hi i (by omega);obtain⟨s,rfl⟩:=iq _ _ _ hr;rw[hC]at hc
   exact⟨s,(World.cells?_some hc).2.2⟩)
  refine⟨some a,len,cap,l,rfl,gO.symm,fun hp=>?_,by omega,hm⟩;have h0:0<l.length:=hp;have hx:=hq 0 l[0] (List.getElem?_eq_getElem h0) 0 hsz;have hv:∃v,(f l[0])[0]?=some v:=⟨_,List.getElem?_eq_getElem (by rw[af];exact hsz)⟩
  obtain⟨v,hv⟩:=hv;rw[hv]at hx;have cf:=World.cell?_spot hx;have bu:=World.block_lt_of_cell? _ _ hx;obtain⟨b,off,spot⟩:=a;have mU:spot=none:=by simpa[Addr.add]using cf
  subst mU;refine⟨b,off,rfl,by simpa[Addr.add]using bu,fun k y hy j u hu=>?_⟩;have hj:j<size:=by have:=(List.getElem?_eq_some_iff.1 hu).1;rw[af]at this;exact this
  have:=hq k y hy j hj;rw[hu]at this;rw[<-this];congr 1
  unfold Addr.add;split<;>split<;>simp_all<;>omega
end
theorem zjg{H:Type}{enc:TypeId×Value->H}{a:Assume}{C:Checked}{os:Os}{f:FuncId}{fn:Func}{s:ChangeSpec}{conds:List PathCond}{apart fresh handsOn again:Bool}{X:World->Array Value->Prop}
 (hX:∀(w w':World) (args:Array Value),w.heap=w'.heap->X w args->X w' args)
 (own:ownKnob C.prog.godebug=none)(started:os.Started)(noInit:C.prog.inits.idxOf? f=none)(vB:C.prog.funcs[f]?=some fn)
 (witness:∃(w:World) (tape:Tape) (i:Input),w.os=os/\(w.forCall tape i).Shaped C.prog/\i.vars=[]/\Input.okWide C.prog (w.forCall tape i) .any w.heap.size f i/\
   ((s.pre enc C.prog fn conds apart (w.forCall tape i).memory i.args/\X (w.forCall tape i).memory i.args)/\sizedMet enc C.prog fn (OpenSpec.ofChange s) apart (w.forCall tape i).memory i.args)/\a.holds C.prog (lone (Frame.enter C.prog f i.args .normal) [] (w.forCall tape i)))
 (contract:∀(W:World) (base:Nat) (args:Array Value) (ds gs:List (DataW H)) (before:List MemPlace),
   (∀(j:Nat) t v,fn.params[j]?=some t->args[j]?=some v->Value.okWide C.prog W .any base t v)->
   DataW.Whole enc C.prog fn.params.toList s.vars apart W args.toList ds gs before->X W args->W.ShapedOpen C.prog->
   Calls C.prog f args W fun e W'=>∃v,e=.returned v/\s.post enc C.prog fn apart fresh handsOn again W args v W'):
 ReturnsInHanded a C os f .any (fun w args=>(s.pre enc C.prog fn conds apart w args/\X w args)/\sizedMet enc C.prog fn (OpenSpec.ofChange s) apart w args) (s.post enc C.prog fn apart fresh handsOn again):=by
 refine returnsInHanded_of_calls own started noInit witness fun w tape i _ cd _ cr mN _=>?_
 obtain⟨_,_,_,fn',vC,_,_,_,_,eK⟩:=cr;obtain rfl:fn'=fn:=Option.some.inj (vC.symm.trans vB);obtain⟨⟨⟨ds,gs,before,hw,_⟩,hx⟩,_⟩:=mN;refine(contract (w.forCall tape i) w.heap.size i.args ds gs before eK (DataW.Whole.of_heap (w':=w.forCall tape i) (by rfl) hw) (hX _ _ _ (by rfl) hx) cd).mono fun e W' h=>?_
 obtain⟨v,rfl,hp⟩:=h;exact ChangeSpec.post_blind hp
theorem own_knob:ownKnob Tryz.prog.godebug=none:=by kernel_rfl
theorem zlq:laidOutB Tryz.prog=true:=by kernel_rfl
