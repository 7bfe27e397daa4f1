import Derived.Test.YtbobmplpdmplkaaGreatDoorS0
set_option linter.all false
set_option maxRecDepth 100000
set_option maxHeartbeats 4000000
namespace Go.Proofs.YtbobmplpdmplkaaGreatDoor
open Go.RowKit
theorem zfp{a b:Int}(h:0<b):(Rat.divInt a b).num=a/(Int.gcd a b:Int):=by
 rw[Rat.num_divInt,Int.gcd_comm b a,Int.sign_eq_one_of_pos h,Int.one_mul]
theorem zee{a b:Int}(h:0<b):((Rat.divInt a b).den:Int)=b/(Int.gcd a b:Int):=by
 rw[Rat.den_divInt,if_neg (by omega),Int.gcd_comm b a];obtain⟨n,rfl⟩:∃n:Nat,b=n:=⟨b.toNat,by omega⟩
 simp
theorem zef{a g:Int}(h:g∣a):a.tdiv g=a/g:=Int.tdiv_eq_ediv_of_dvd h
def za8(n:Int)(num den:Int):Bool:=(decide (1<=den)&&decide (den<=n))&&(decide (0<=num)&&decide (num<=den))&&Int.gcd num den==1
theorem zbm{n num den:Int}(h:za8 n num den=true):(Rat.divInt num den).num=num/\((Rat.divInt num den).den:Int)=den/\0<=Rat.divInt num den/\Rat.divInt num den<=1:=by
 unfold za8 at h;simp only[Bool.and_eq_true,decide_eq_true_eq,beq_iff_eq]at h;obtain⟨⟨⟨h1,h2⟩,h3,h4⟩,h5⟩:=h;have hb:0<den:=by omega
 have e1:(Rat.divInt num den).num=num:=by rw[zfp hb,h5];simp
 have e2:((Rat.divInt num den).den:Int)=den:=by rw[zee hb,h5];simp
 refine⟨e1,e2,?_,?_⟩
 ·rw[Rat.le_iff,e1];simp;omega
 ·rw[Rat.le_iff,e1,e2];simp;omega
theorem zju(p q:Rat):p+q=Rat.divInt (p.num*q.den+q.num*p.den) (p.den*q.den):=by
 rw[Rat.add_def'];rfl
theorem zjv(p q:Rat):p-q=Rat.divInt (p.num*q.den-q.num*p.den) (p.den*q.den):=by
 rw[Rat.sub_def'];rfl
theorem zgI(p q:Rat):p*q=Rat.divInt (p.num*q.num) (p.den*q.den):=by
 rw[Rat.mul_def'];rfl
theorem zbT(p:Rat):(0:Int)<p.den:=by have:=p.den_pos;omega
theorem ratI{n:Int}(h:n≠0):(n:Rat)≠0:=fun e=>h (Rat.intCast_inj.1 (by simpa using e))
theorem zjw(p q:Rat)(h:0<q):p/q=Rat.divInt (p.num*q.den) (p.den*q.num):=by
 have hq:0<q.num:=by have:=(Rat.lt_iff 0 q).1 h;simpa using this
 rw[Rat.divInt_eq_div];have h1:p=p.num/(p.den:Int):=by rw[<-Rat.divInt_eq_div,Rat.num_divInt_den]
 have h2:q=q.num/(q.den:Int):=by rw[<-Rat.divInt_eq_div,Rat.num_divInt_den]
 have a1:((p.den:Int):Rat)≠0:=by have:=zbT p;exact ratI (by omega)
 have a2:((q.den:Int):Rat)≠0:=by have:=zbT q;exact ratI (by omega)
 have a3:(q.num:Rat)≠0:=ratI (by omega);conv=>lhs;rw[h1,h2]
 rw[Rat.intCast_mul,Rat.intCast_mul];generalize(p.num:Rat)=x at*;generalize((p.den:Int):Rat)=y at*;generalize(q.num:Rat)=z at*;generalize((q.den:Int):Rat)=t at*;clear h1 h2;grind
structure Rec where
 kind:Int
 name:ByteArray
 other:ByteArray
 place:ByteArray
 day:Int
 til:Int
 num:Int
 den:Int
def Rec.cells(r:Rec):List Value:=[.int .i64 r.kind,.string r.name,.string r.other,.string r.place,.int .i64 r.day,.int .i64 r.til,.int .i64 r.num,.int .i64 r.den]
def zbn(n:Int):Bool:=inR n 0 200000
def noB(s:ByteArray):Bool:=s.toList.isEmpty
def zbz(s:ByteArray):Bool:=noB s||zaS s
def zcs(x:Rec):Int:=
 if !inR x.kind 0 4 then 15 else
 if !zbn x.day||!zbn x.til then 2 else
 if !zbz x.name||!zbz x.other||!zbz x.place then 4 else
 if noB x.name||(!noB x.other) != (x.kind==2)||(!noB x.place) != (x.kind==3||x.kind==4)then 3 else
 if(x.kind==2&&x.day != 0)||(x.kind != 4&&x.til != 0)||(x.kind != 3&&(x.num != 0||x.den != 0))then 3 else
 if x.kind==3&&(!inR x.den 1 12||!inR x.num 1 x.den||Int.gcd x.num x.den != 1)then 3 else
 if x.kind==4&&decide (x.til<=x.day)then 9 else 0
def zfY{α:Type}(f:α->Int):List α->Int
 | []=>0
 |x::l=>if f x != 0 then f x else zfY f l
def zfq(l:List Rec):Int:=if decide (40<l.length)then 8 else zfY zcs l
def zae(a b:ByteArray):Bool:=a.toList==b.toList
def zfZ(a b:Rec):Bool:=
 if a.kind==1&&b.kind==1 then zae a.name b.name&&a.day != b.day else
 if a.kind==0&&b.kind==1 then zae a.name b.name&&decide (b.day<a.day)else
 if a.kind==1&&(b.kind==3||b.kind==4)then zae a.name b.name&&decide (a.day<b.day)else
 if a.kind==3&&b.kind==3 then zae a.name b.name&&zae a.place b.place&&a.day==b.day&&(a.num != b.num||a.den != b.den)else
 if a.kind==4&&b.kind==4 then !zae a.name b.name&&zae a.place b.place&&decide (max a.day b.day<min a.til b.til)else false
def zbF(a b:Rec):Bool:=if decide (b.kind<a.kind)then zfZ b a else zfZ a b
def zjY:List Rec->Bool
 | []=>false
 |x::l=>l.any (fun y=>zbF y x)||zjY l
def Edge(l:List Rec)(a b:ByteArray):Prop:= ∃x∈l,x.kind=2/\x.name=a/\x.other=b
def Circle(l:List Rec):Prop:= ∃a,Relation.TransGen (Edge l) a a
abbrev Parts:=List (ByteArray×Rat)
structure Law where
 frm:Int
 stems:Bool
 num:Int
 den:Int
structure RPart where
 name:ByteArray
 num:Int
 den:Int
structure Deed where
 kind:Int
 day:Int
 place:ByteArray
 frm:ByteArray
 to:List RPart
 cls:Int
 years:Int
structure Grave where
 place:ByteArray
 cls:Int
 fin:Int
 holders:Parts
 died:List ByteArray
structure St where
 children:List (ByteArray×ByteArray)
 marriages:List (ByteArray×ByteArray)
 dead:List ByteArray
 wills:List (ByteArray×Parts)
 renounce:List (ByteArray×ByteArray)
 graves:List Grave
def Law.cells(x:Law):List Value:=[.int .i64 x.frm,.bool x.stems,.int .i64 x.num,.int .i64 x.den]
def RPart.cells(x:RPart):List Value:=[.string x.name,.int .i64 x.num,.int .i64 x.den]
def zaa(x:ByteArray×Rat):List Value:=[.string x.1,.int .i64 x.2.num,.int .i64 x.2.den]
def zbh(a b:ByteArray):Bool:=Op.bytesLess a.toList b.toList
def zhj(before:Option Int)(x:Law):Int:=
 if !zbn x.frm then 2 else if !za8 16 x.num x.den then 3 else match before with
  |none=>0
  |some b=>if decide (x.frm<=b)then 9 else 0
def zeP:List Law->Option Int->Int
 | [],_=>0
 |x::l,b=>if zhj b x != 0 then zhj b x else zeP l (some x.frm)
def zaD(l:List Law):Int:=if decide (10<l.length)then 8 else zeP l none
def zmp:Law:=⟨0,false,0,1⟩
def zba(l:List Law)(day:Int):Law:=(l.filter fun x=>decide (x.frm<=day)).getLast?.getD zmp
def RPart.rat(p:RPart):Rat:=Rat.divInt p.num p.den
def zao(l:List RPart):Parts:=l.map fun p=>(p.name,p.rat)
def sumQ:Parts->Rat
 | []=>0
 |p::l=>p.2+sumQ l
def zcY:List RPart->List ByteArray->Bool
 | [],_=>true
 |p::l,seen=>!seen.any (zae p.name)&&zcY l (p.name::seen)
def zcC(shares all:Bool)(frm:ByteArray)(l:List RPart):Bool:=
 zcY l []&&l.all (fun p=>!zae p.name frm)&&
 (if shares then l.all (fun p=>za8 16 p.num p.den&&p.num != 0)&&decide (sumQ (zao l)<=1)&&(!all||sumQ (zao l)==1)else l.all fun p=>p.num==0&&p.den==0)
def zfF(d:Deed):Bool:=
 (noB d.place != (d.kind==0||d.kind==1||d.kind==2||d.kind==3))&&(noB d.frm==(d.kind==0||d.kind==3))&&
 (d.kind==0||d.cls==0)&&(d.kind==0||d.kind==3||d.years==0)&&!(d.years==0&&(d.kind==3||(d.kind==0&&d.cls==2)))&&
 (if d.kind==0||d.kind==1||d.kind==4 then !d.to.isEmpty&&zcC true (d.kind==0) d.frm d.to else
  if d.kind==5||d.kind==6||d.kind==7 then d.to.length==1&&zcC false false d.frm d.to else d.to.isEmpty)
def zaH(d:Deed):Int:=
 if !inR d.kind 0 8 then 15 else
 if !zbn d.day||!inR d.cls 0 4||!inR d.years 0 99 then 2 else
 if decide (8<d.to.length)then 8 else
 if !zbz d.place||!zbz d.frm||!d.to.all (fun p=>zaS p.name)then 4 else
 if !zfF d then 3 else 0
def za3:Parts->ByteArray->Rat->Parts
 | [],n,q=>if q==0 then[]else[(n,q)]
 |p::r,n,q=>if q==0 then p::r else if zbh p.1 n then p::za3 r n q else if zae p.1 n then(n,p.2+q)::r else(n,q)::p::r
def zag(l:Parts)(n:ByteArray):Rat:=((l.find? fun p=>zae p.1 n).map (·.2)).getD 0
def zas(l:Parts)(n:ByteArray):Parts:=l.filter fun p=>!zae p.1 n
def bigQ(q:Rat):Bool:=decide (1000000000<(q.den:Int))
def zaE(l:Parts):Bool:=l.any fun p=>bigQ p.2
def zaJ(s:St)(n:ByteArray):Bool:=s.dead.any (zae n)
def zai(s:St)(n:ByteArray):List ByteArray:=(s.children.filter fun c=>zae c.1 n).map (·.2)
def zbP(s:St)(n:ByteArray):List ByteArray:=(s.children.filter fun c=>zae c.2 n).map (·.1)
def zaV(g:Grave)(day:Int):Bool:=!g.holders.isEmpty&&(decide (g.fin<0)||decide (day<g.fin))
def zaR(s:St)(place:ByteArray)(day:Int):Option Nat:=s.graves.findIdx? fun g=>zae g.place place&&zaV g day
def zdo(n:ByteArray):List (ByteArray×ByteArray)->ByteArray
 | []=>⟨#[]⟩
 |m::l=>if zae m.1 n then m.2 else if zae m.2 n then m.1 else zdo n l
def zaG(s:St)(n:ByteArray):ByteArray:=if zaJ s (zdo n s.marriages.reverse)then⟨#[]⟩else zdo n s.marriages.reverse
def zdT(s:St)(n frm:ByteArray):Bool:=!noB n&&!zae n frm&&!zaJ s n&&!s.renounce.any (fun r=>zae r.1 n&&zae r.2 frm)
def Desc(s:St)(a b:ByteArray):Prop:=Relation.TransGen (fun x y=>y∈zai s x) a b
inductive Tree where
 |leaf (n:ByteArray)
 |node (l:List Tree)
def zb2(s:St)(stems:Bool)(frm:ByteArray):Nat->ByteArray->List Tree
 |0,_=>[]
 |f+1,n=>(zai s n).filterMap fun c=>if zdT s c frm then some (.leaf c)else if stems&&!(zb2 s stems frm f c).isEmpty then some (.node (zb2 s stems frm f c))else none
mutual
def zbG(each:Rat):List Tree->Parts->Option Parts
 | [],out=>some out
 |x::l,out=>(zeg each x out).bind fun o=>zbG each l o
def zeg(each:Rat):Tree->Parts->Option Parts
 | .leaf n,out=>if zaE (za3 out n each)then none else some (za3 out n each)
 | .node l,out=>if bigQ (each/(l.length:Rat))then none else zbG (each/(l.length:Rat)) l out
end
def zcp(s:St)(frm:ByteArray):Parts->Parts->Rat->Parts×Rat
 | [],out,rest=>(out,rest)
 |p::l,out,rest=>if zdT s p.1 frm then zcp s frm l (za3 out p.1 p.2) (rest-p.2)else zcp s frm l out rest
def zbw(s:St)(n:ByteArray):Parts:=((s.wills.reverse.find? fun w=>zae w.1 n).map (·.2)).getD []
def zaW(s:St):Nat:=s.children.length+1
def zcK(s:St)(law:Law)(n:ByteArray):Option Parts:=
 let(out,rest):=zcp s n (zbw s n) [] 1
 if rest==0 then some out else
 let sp:=if zdT s (zaG s n) n then zaG s n else⟨#[]⟩
 let lines:=zb2 s law.stems n (zaW s) n
 if lines.isEmpty then some (za3 out sp rest)else
 let own:=if noB sp then 0 else rest*Rat.divInt law.num law.den
 let out2:=if noB sp then out else za3 out sp own
 if rest-own==0 then some out2 else
 if bigQ ((rest-own)/(lines.length:Rat))then none else zbG ((rest-own)/(lines.length:Rat)) lines out2
def zb6(own:Rat):Parts->Parts->Option Parts
 | [],out=>some out
 |p::l,out=>if bigQ (own*p.2)then none else if zaE (za3 out p.1 (own*p.2))then none else zb6 own l (za3 out p.1 (own*p.2))
def zgJ(y:Int):Bool:=(y.tmod 4==0&&y.tmod 100 != 0)||y.tmod 400==0
def lensP:List Int:=[0,31,28,31,30,31,30,31,31,30,31,30,31]
def za6(y m:Int):Int:=if m==2&&zgJ y then 29 else lensP.getD m.toNat 0
def zeQ(y:Int):Int:=y.tdiv 4-y.tdiv 100+y.tdiv 400
def zez(y:Int):Nat->Int
 |0=>0
 |k+1=>zez y k+za6 y (k+1)
def zaC(y:Int)(m:Nat):Int:=365*(y-1800)+zeQ (y-1)-436+zez y (m-1)
def zeh(day:Int):Nat->Int->Int
 |0,y=>y
 |f+1,y=>if decide (zaC (y+1) 1<=day)then zeh day f (y+1)else y
def zdj(day y:Int):Nat->Nat->Nat
 |0,m=>m
 |f+1,m=>if decide (m<12)&&decide (zaC y (m+1)<=day)then zdj day y f (m+1)else m
def zbQ(day:Int):Int:=zeh day 10 (1800+day.tdiv 366)
def zbe(day:Int):Nat:=zdj day (zbQ day) 12 1
def zbR(day months:Int):Int:=
 let y:=zbQ day
 let m:=zbe day
 let d:=day-zaC y m+1
 let n:=y*12+m-1+months
 let y2:=n/12
 let m2:=n%12+1
 if !inR y2 1800 2347 then-1 else
 let out:=zaC y2 m2.toNat+min d (za6 y2 m2)-1
 if zbn out then out else-1
def zcd(day years:Int):Int:=zbR day (12*years)
def zdU(s:St)(l:List RPart):Bool:=l.any fun p=>zaJ s p.name
def St.withGrave(s:St)(i:Nat)(g:Grave):St:= {s with graves:=s.graves.set i g}
def zbc(l:List RPart)(out:Parts):Parts:=l.foldl (fun o p=>za3 o p.name p.rat) out
def zcO(s:St)(d:Deed):St×Int:=
 if(zaR s d.place d.day).isSome then(s,13)else
 if zdU s d.to then(s,28)else
 if decide (0<d.years)&&decide (zcd d.day d.years<0)then(s,2)else
 ({s with graves:=s.graves++[⟨d.place,d.cls,if decide (0<d.years)then zcd d.day d.years else-1,zbc d.to [],[]⟩]},0)
def zga:Grave:=⟨⟨#[]⟩,0,0,[],[]⟩
def zbp(s:St)(d:Deed):St×Int:=match zaR s d.place d.day with
 |none=>(s,6)
 |some i=>
  let g:=s.graves.getD i zga
  let share:=zag g.holders d.frm
  let keeps:=share*(1-sumQ (zao d.to))
  if g.cls==4 then(s,15)else
  if share==0 then(s,19)else
  if zdU s d.to then(s,28)else
  if bigQ keeps then(s,8)else match zb6 share (zao d.to) (za3 (zas g.holders d.frm) d.frm keeps)with
   |none=>(s,8)
   |some out=>(s.withGrave i {g with holders:=out},0)
def zaZ(s:St)(d:Deed):St×Int:=match zaR s d.place d.day with
 |none=>(s,6)
 |some i=>
  let g:=s.graves.getD i zga
  let share:=zag g.holders d.frm
  if share==0 then(s,19)else
  let out:=(zas g.holders d.frm).map fun p=>(p.1,p.2/(1-share))
  if zaE out then(s,8)else(s.withGrave i {g with holders:=out},0)
def zcZ(s:St)(d:Deed):St×Int:=match zaR s d.place d.day with
 |none=>(s,6)
 |some i=>
  let g:=s.graves.getD i zga
  if decide (g.fin<0)then(s,15)else
  if decide (zcd g.fin d.years<0)then(s,2)else(s.withGrave i {g with fin:=zcd g.fin d.years},0)
def zbf(d:Deed):ByteArray:=(d.to.map (·.name)).getD 0 ⟨#[]⟩
open Classical in
noncomputable def zcE (s:St) (d:Deed):St×Int:=
 if(zai s d.frm).any (zae (zbf d))then(s,5)else
 if decide (2<=(zbP s (zbf d)).length)then(s,16)else
 if decide (Desc s (zbf d) d.frm)then(s,25)else({s with children:=s.children++[(d.frm,zbf d)]},0)
def zb7(s:St)(d:Deed):St×Int:=
 if zaJ s d.frm||zaJ s (zbf d)then(s,28)else
 if s.renounce.any (fun r=>zae r.1 d.frm&&zae r.2 (zbf d))then(s,5)else({s with renounce:=s.renounce++[(d.frm,zbf d)]},0)
def zdq(s:St)(d:Deed):St×Int:=
 if zaJ s d.frm||zaJ s (zbf d)then(s,28)else
 if !noB (zaG s d.frm)||!noB (zaG s (zbf d))then(s,13)else({s with marriages:=s.marriages++[(d.frm,zbf d)]},0)
def zdr(s:St)(n:ByteArray)(day:Int)(i:Nat)(g:Grave):Bool:=zag g.holders n != 0&&zaR s g.place day==some i
def zb0(s:St)(n:ByteArray)(day:Int)(bp:Option Parts):Nat->List Grave->Option (List Grave)
 |_,[]=>some []
 |i,g::l=>
  if zdr s n day i g then(match bp with
   |none=>none
   |some h=>(zb6 (zag g.holders n) h (zas g.holders n)).bind fun out=>(zb0 s n day bp (i+1) l).map fun r=> {g with holders:=out,died:=g.died++[n]}::r)
  else(zb0 s n day bp (i+1) l).map fun r=>g::r
def zdH(laws:List Law)(s:St)(d:Deed):St×Int:=
 if zaJ s d.frm then(s,28)else match zb0 s d.frm d.day (zcK s (zba laws d.day) d.frm) 0 s.graves with
  |none=>(s,8)
  |some gs=>({s with graves:=gs,dead:=s.dead++[d.frm]},0)
def zgK(s:St)(d:Deed):St×Int:=if zaJ s d.frm then(s,28)else({s with wills:=s.wills++[(d.frm,zao d.to)]},0)
noncomputable def zbq (laws:List Law) (s:St) (d:Deed):St×Int:=
 if d.kind==0 then zcO s d else if d.kind==1 then zbp s d else if d.kind==2 then zaZ s d else if d.kind==3 then zcZ s d else
 if d.kind==4 then zgK s d else if d.kind==5 then zb7 s d else if d.kind==6 then zcE s d else if d.kind==7 then zdq s d else zdH laws s d
def zb3:St:=⟨[],[],[],[],[],[]⟩
noncomputable def zck (laws:List Law) (s:St) (count:Nat) (last:Int) (d:Deed):St×Int:=
 if zaH d != 0 then(s,zaH d)else if decide (60<=count)then(s,8)else if decide (d.day<last)then(s,9)else zbq laws s d
noncomputable def zaX (laws:List Law) (upto:Int):List Deed->St->St->Nat->Int->St×Nat×Int
 | [],_,told,k,_=>(told,k,0)
 |d::l,s,told,k,last=>
  if(zck laws s k last d).2 != 0 then(told,k,(zck laws s k last d).2)else
  zaX laws upto l (zck laws s k last d).1 (if decide (d.day<=upto)then(zck laws s k last d).1 else told) (k+1) d.day
noncomputable def zaL (laws:List Law) (ds:List Deed) (upto:Int):St×Nat×Int:=
 if zaD laws != 0 then(zb3,0,zaD laws)else zaX laws upto ds zb3 zb3 0 0
