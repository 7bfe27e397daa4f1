/- Chapter 5 in plain words: dates; what a deed makes of a state; replays. -/
import Derived.Test.YtkhkhnellekofaaGreatDoorN1
set_option linter.unusedSimpArgs false
set_option linter.unusedVariables false
namespace Go.Proofs.YtkhkhnellekofaaGreatDoor
open Go.RowKit
abbrev Parts:=List (ByteArray×Rat)
structure Law where
 frm:Int
 stems:Bool
 num:Int
 den:Int
structure RPart where
 name:ByteArray
 num:Int
 den:Int
structure Deed where
 kind:Int
 day:Int
 place:ByteArray
 frm:ByteArray
 to:List RPart
 cls:Int
 years:Int
structure Grave where
 place:ByteArray
 cls:Int
 fin:Int
 holders:Parts
 died:List ByteArray
structure St where
 children:List (ByteArray×ByteArray)
 marriages:List (ByteArray×ByteArray)
 dead:List ByteArray
 wills:List (ByteArray×Parts)
 renounce:List (ByteArray×ByteArray)
 graves:List Grave
def Law.cells (x:Law):List Value:=[.int .i64 x.frm, .bool x.stems, .int .i64 x.num, .int .i64 x.den]
def RPart.cells (x:RPart):List Value:=[.string x.name, .int .i64 x.num, .int .i64 x.den]
def partCells (x:ByteArray×Rat):List Value:=[.string x.1, .int .i64 x.2.num, .int .i64 x.2.den]
def lessN (a b:ByteArray):Bool:=Op.bytesLess a.toList b.toList
def lawErr (before:Option Int) (x:Law):Int:=
 if !isDayP x.frm then 2 else if !isShareP 16 x.num x.den then 3 else match before with
  |none=>0
  |some b=>if decide (x.frm<=b)then 9 else 0
def lawsGo:List Law->Option Int->Int
 | [],_=>0
 |x::l,b=>if lawErr b x != 0 then lawErr b x else lawsGo l (some x.frm)
def checkLawsP (l:List Law):Int:=if decide (10<l.length)then 8 else lawsGo l none
def zeroLaw:Law:=⟨0,false,0,1⟩
def lawOnP (l:List Law) (day:Int):Law:=(l.filter fun x=>decide (x.frm<=day)).getLast?.getD zeroLaw
def RPart.rat (p:RPart):Rat:=Rat.divInt p.num p.den
def ratParts (l:List RPart):Parts:=l.map fun p=>(p.name,p.rat)
def sumQ:Parts->Rat
 | []=>0
 |p::l=>p.2+sumQ l
def firstsP:List RPart->List ByteArray->Bool
 | [],_=>true
 |p::l,seen=>!seen.any (sameB p.name)&&firstsP l (p.name::seen)
def partsOk (shares all:Bool) (frm:ByteArray) (l:List RPart):Bool:=
 firstsP l []&&l.all (fun p=>!sameB p.name frm)&&
 (if shares then l.all (fun p=>isShareP 16 p.num p.den&&p.num != 0)&&decide (sumQ (ratParts l)<=1)&&(!all||sumQ (ratParts l)==1)else l.all fun p=>p.num==0&&p.den==0)
def formedP (d:Deed):Bool:=
 (noB d.place != (d.kind==0||d.kind==1||d.kind==2||d.kind==3))&&(noB d.frm==(d.kind==0||d.kind==3))&&
 (d.kind==0||d.cls==0)&&(d.kind==0||d.kind==3||d.years==0)&&!(d.years==0&&(d.kind==3||(d.kind==0&&d.cls==2)))&&
 (if d.kind==0||d.kind==1||d.kind==4 then !d.to.isEmpty&&partsOk true (d.kind==0) d.frm d.to else
  if d.kind==5||d.kind==6||d.kind==7 then d.to.length==1&&partsOk false false d.frm d.to else d.to.isEmpty)
def checkDeedP (d:Deed):Int:=
 if !inR d.kind 0 8 then 15 else
 if !isDayP d.day||!inR d.cls 0 4||!inR d.years 0 99 then 2 else
 if decide (8<d.to.length)then 8 else
 if !nameOr d.place||!nameOr d.frm||!d.to.all (fun p=>isNameP p.name)then 4 else
 if !formedP d then 3 else 0
def givenP:Parts->ByteArray->Rat->Parts
 | [],n,q=>if q==0 then[]else[(n,q)]
 |p::r,n,q=>if q==0 then p::r else if lessN p.1 n then p::givenP r n q else if sameB p.1 n then(n,p.2+q)::r else(n,q)::p::r
def shareP (l:Parts) (n:ByteArray):Rat:=((l.find? fun p=>sameB p.1 n).map (·.2)).getD 0
def withoutP (l:Parts) (n:ByteArray):Parts:=l.filter fun p=>!sameB p.1 n
def bigQ (q:Rat):Bool:=decide (1000000000<(q.den:Int))
def largeP (l:Parts):Bool:=l.any fun p=>bigQ p.2
def isDeadP (s:St) (n:ByteArray):Bool:=s.dead.any (sameB n)
def childrenP (s:St) (n:ByteArray):List ByteArray:=(s.children.filter fun c=>sameB c.1 n).map (·.2)
def parentsP (s:St) (n:ByteArray):List ByteArray:=(s.children.filter fun c=>sameB c.2 n).map (·.1)
def inForceP (g:Grave) (day:Int):Bool:=!g.holders.isEmpty&&(decide (g.fin<0)||decide (day<g.fin))
def graveIx (s:St) (place:ByteArray) (day:Int):Option Nat:=s.graves.findIdx? fun g=>sameB g.place place&&inForceP g day
def spouseGo (n:ByteArray):List (ByteArray×ByteArray)->ByteArray
 | []=>⟨#[]⟩
 |m::l=>if sameB m.1 n then m.2 else if sameB m.2 n then m.1 else spouseGo n l
def spouseP (s:St) (n:ByteArray):ByteArray:=if isDeadP s (spouseGo n s.marriages.reverse)then⟨#[]⟩else spouseGo n s.marriages.reverse
def ableP (s:St) (n frm:ByteArray):Bool:=!noB n&&!sameB n frm&&!isDeadP s n&&!s.renounce.any (fun r=>sameB r.1 n&&sameB r.2 frm)
def Desc (s:St) (a b:ByteArray):Prop:=Relation.TransGen (fun x y=>y∈childrenP s x) a b
inductive Tree where
 |leaf (n:ByteArray)
 |node (l:List Tree)
def treesP (s:St) (stems:Bool) (frm:ByteArray):Nat->ByteArray->List Tree
 |0,_=>[]
 |f+1,n=>(childrenP s n).filterMap fun c=>if ableP s c frm then some (.leaf c)else if stems&&!(treesP s stems frm f c).isEmpty then some (.node (treesP s stems frm f c))else none
mutual
def spreadP (each:Rat):List Tree->Parts->Option Parts
 | [],out=>some out
 |x::l,out=>(treeP each x out).bind fun o=>spreadP each l o
def treeP (each:Rat):Tree->Parts->Option Parts
 | .leaf n,out=>if largeP (givenP out n each)then none else some (givenP out n each)
 | .node l,out=>if bigQ (each/(l.length:Rat))then none else spreadP (each/(l.length:Rat)) l out
end
def willGo (s:St) (frm:ByteArray):Parts->Parts->Rat->Parts×Rat
 | [],out,rest=>(out,rest)
 |p::l,out,rest=>if ableP s p.1 frm then willGo s frm l (givenP out p.1 p.2) (rest-p.2)else willGo s frm l out rest
def willOf (s:St) (n:ByteArray):Parts:=((s.wills.reverse.find? fun w=>sameB w.1 n).map (·.2)).getD []
def generations (s:St):Nat:=s.children.length+1
def estateP (s:St) (law:Law) (n:ByteArray):Option Parts:=
 let(out,rest):=willGo s n (willOf s n) [] 1
 if rest==0 then some out else
 let sp:=if ableP s (spouseP s n) n then spouseP s n else⟨#[]⟩
 let lines:=treesP s law.stems n (generations s) n
 if lines.isEmpty then some (givenP out sp rest)else
 let own:=if noB sp then 0 else rest*Rat.divInt law.num law.den
 let out2:=if noB sp then out else givenP out sp own
 if rest-own==0 then some out2 else
 if bigQ ((rest-own)/(lines.length:Rat))then none else spreadP ((rest-own)/(lines.length:Rat)) lines out2
def gainGo (own:Rat):Parts->Parts->Option Parts
 | [],out=>some out
 |p::l,out=>if bigQ (own*p.2)then none else if largeP (givenP out p.1 (own*p.2))then none else gainGo own l (givenP out p.1 (own*p.2))
end Go.Proofs.YtkhkhnellekofaaGreatDoor
namespace Go.Proofs.YtkhkhnellekofaaGreatDoor
open Go.RowKit
def leapP (y:Int):Bool:=(y.tmod 4==0&&y.tmod 100 != 0)||y.tmod 400==0
def lensP:List Int:=[0,31,28,31,30,31,30,31,31,30,31,30,31]
def monthDaysP (y m:Int):Int:=if m==2&&leapP y then 29 else lensP.getD m.toNat 0
def leapsP (y:Int):Int:=y.tdiv 4-y.tdiv 100+y.tdiv 400
def monthsGo (y:Int):Nat->Int
 |0=>0
 |k+1=>monthsGo y k+monthDaysP y (k+1)
def firstP (y:Int) (m:Nat):Int:=365*(y-1800)+leapsP (y-1)-436+monthsGo y (m-1)
def yearGo (day:Int):Nat->Int->Int
 |0,y=>y
 |f+1,y=>if decide (firstP (y+1) 1<=day)then yearGo day f (y+1)else y
def monthGo (day y:Int):Nat->Nat->Nat
 |0,m=>m
 |f+1,m=>if decide (m<12)&&decide (firstP y (m+1)<=day)then monthGo day y f (m+1)else m
def yearP (day:Int):Int:=yearGo day 10 (1800+day.tdiv 366)
def monthP (day:Int):Nat:=monthGo day (yearP day) 12 1
def addMonthsP (day months:Int):Int:=
 let y:=yearP day
 let m:=monthP day
 let d:=day-firstP y m+1
 let n:=y*12+m-1+months
 let y2:=n/12
 let m2:=n%12+1
 if !inR y2 1800 2347 then-1 else
 let out:=firstP y2 m2.toNat+min d (monthDaysP y2 m2)-1
 if isDayP out then out else-1
def afterP (day years:Int):Int:=addMonthsP day (12*years)
def deadPart (s:St) (l:List RPart):Bool:=l.any fun p=>isDeadP s p.name
def St.withGrave (s:St) (i:Nat) (g:Grave):St:= {s with graves:=s.graves.set i g}
def givenAll (l:List RPart) (out:Parts):Parts:=l.foldl (fun o p=>givenP o p.name p.rat) out
def grantP (s:St) (d:Deed):St×Int:=
 if(graveIx s d.place d.day).isSome then(s,13)else
 if deadPart s d.to then(s,28)else
 if decide (0<d.years)&&decide (afterP d.day d.years<0)then(s,2)else
 ({s with graves:=s.graves++[⟨d.place,d.cls,if decide (0<d.years)then afterP d.day d.years else-1,givenAll d.to [],[]⟩]},0)
def zeroG:Grave:=⟨⟨#[]⟩,0,0,[],[]⟩
def transferP (s:St) (d:Deed):St×Int:=match graveIx s d.place d.day with
 |none=>(s,6)
 |some i=>
  let g:=s.graves.getD i zeroG
  let share:=shareP g.holders d.frm
  let keeps:=share*(1-sumQ (ratParts d.to))
  if g.cls==4 then(s,15)else
  if share==0 then(s,19)else
  if deadPart s d.to then(s,28)else
  if bigQ keeps then(s,8)else match gainGo share (ratParts d.to) (givenP (withoutP g.holders d.frm) d.frm keeps)with
   |none=>(s,8)
   |some out=>(s.withGrave i {g with holders:=out},0)
def surrenderP (s:St) (d:Deed):St×Int:=match graveIx s d.place d.day with
 |none=>(s,6)
 |some i=>
  let g:=s.graves.getD i zeroG
  let share:=shareP g.holders d.frm
  if share==0 then(s,19)else
  let out:=(withoutP g.holders d.frm).map fun p=>(p.1,p.2/(1-share))
  if largeP out then(s,8)else(s.withGrave i {g with holders:=out},0)
def renewP (s:St) (d:Deed):St×Int:=match graveIx s d.place d.day with
 |none=>(s,6)
 |some i=>
  let g:=s.graves.getD i zeroG
  if decide (g.fin<0)then(s,15)else
  if decide (afterP g.fin d.years<0)then(s,2)else(s.withGrave i {g with fin:=afterP g.fin d.years},0)
def toName (d:Deed):ByteArray:=(d.to.map (·.name)).getD 0 ⟨#[]⟩
open Classical in
noncomputable def childP (s:St) (d:Deed):St×Int:=
 if(childrenP s d.frm).any (sameB (toName d))then(s,5)else
 if decide (2<=(parentsP s (toName d)).length)then(s,16)else
 if decide (Desc s (toName d) d.frm)then(s,25)else({s with children:=s.children++[(d.frm,toName d)]},0)
def renounceP (s:St) (d:Deed):St×Int:=
 if isDeadP s d.frm||isDeadP s (toName d)then(s,28)else
 if s.renounce.any (fun r=>sameB r.1 d.frm&&sameB r.2 (toName d))then(s,5)else({s with renounce:=s.renounce++[(d.frm,toName d)]},0)
def marryP (s:St) (d:Deed):St×Int:=
 if isDeadP s d.frm||isDeadP s (toName d)then(s,28)else
 if !noB (spouseP s d.frm)||!noB (spouseP s (toName d))then(s,13)else({s with marriages:=s.marriages++[(d.frm,toName d)]},0)
def heldP (s:St) (n:ByteArray) (day:Int) (i:Nat) (g:Grave):Bool:=shareP g.holders n != 0&&graveIx s g.place day==some i
def diesGo (s:St) (n:ByteArray) (day:Int) (heirs:Option Parts):Nat->List Grave->Option (List Grave)
 |_,[]=>some []
 |i,g::l=>
  if heldP s n day i g then(match heirs with
   |none=>none
   |some h=>(gainGo (shareP g.holders n) h (withoutP g.holders n)).bind fun out=>(diesGo s n day heirs (i+1) l).map fun r=> {g with holders:=out,died:=g.died++[n]}::r)
  else(diesGo s n day heirs (i+1) l).map fun r=>g::r
def deathP (laws:List Law) (s:St) (d:Deed):St×Int:=
 if isDeadP s d.frm then(s,28)else match diesGo s d.frm d.day (estateP s (lawOnP laws d.day) d.frm) 0 s.graves with
  |none=>(s,8)
  |some gs=>({s with graves:=gs,dead:=s.dead++[d.frm]},0)
def willP (s:St) (d:Deed):St×Int:=if isDeadP s d.frm then(s,28)else({s with wills:=s.wills++[(d.frm,ratParts d.to)]},0)
noncomputable def takeD (laws:List Law) (s:St) (d:Deed):St×Int:=
 if d.kind==0 then grantP s d else if d.kind==1 then transferP s d else if d.kind==2 then surrenderP s d else if d.kind==3 then renewP s d else
 if d.kind==4 then willP s d else if d.kind==5 then renounceP s d else if d.kind==6 then childP s d else if d.kind==7 then marryP s d else deathP laws s d
def zeroSt:St:=⟨[],[],[],[],[],[]⟩
noncomputable def nextD (laws:List Law) (s:St) (count:Nat) (last:Int) (d:Deed):St×Int:=
 if checkDeedP d != 0 then(s,checkDeedP d)else if decide (60<=count)then(s,8)else if decide (d.day<last)then(s,9)else takeD laws s d
noncomputable def replayGo (laws:List Law) (upto:Int):List Deed->St->St->Nat->Int->St×Nat×Int
 | [],_,told,k,_=>(told,k,0)
 |d::l,s,told,k,last=>
  if(nextD laws s k last d).2 != 0 then(told,k,(nextD laws s k last d).2)else
  replayGo laws upto l (nextD laws s k last d).1 (if decide (d.day<=upto)then(nextD laws s k last d).1 else told) (k+1) d.day
noncomputable def replayD (laws:List Law) (ds:List Deed) (upto:Int):St×Nat×Int:=
 if checkLawsP laws != 0 then(zeroSt,0,checkLawsP laws)else replayGo laws upto ds zeroSt zeroSt 0 0
end Go.Proofs.YtkhkhnellekofaaGreatDoor
