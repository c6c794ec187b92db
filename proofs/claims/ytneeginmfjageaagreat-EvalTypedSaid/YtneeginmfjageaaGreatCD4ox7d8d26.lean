/-
  Shapes of values and states, what is taken out of a state by a shape and what is filled in; entries of functions; regions; code. Conditions: none; definitions.
-/
import Derived.Lib.Bytealg
import Derived.Test.YtneeginmfjageaaGreatCAbs36ox807479
set_option linter.all false
namespace Go.Proofs.YtneeginmfjageaaGreat
namespace Abs
section
open Go
noncomputable section
mutual
def aAR:Ty→Ty→Bool
 | .mk k s l,.mk k' s' l'=>decide (k=k')&&(s==s'&&ad4 l l')
def ad4:List Ty→List Ty→Bool
 |[],[]=>true
 |x::xs,y::ys=>aAR x y&&ad4 xs ys
 |_,_=>false
end
inductive CU where
 |n (k:IntKind) (x:Int)|b (x:Bool)|s (x:Str)|l (e:ET)|ly (x:List Ty)
def CU.t:CU->LT| .n k _=>.n k| .b _=>.b| .s _=>.s| .l e=>.l e| .ly _=>.l .ty
def CU.x:(c:CU)->c.t.D| .n _ x=>x| .b x=>x| .s x=>x| .l _=>[]| .ly x=>x
def CU.is:(c:CU)->c.t.D->Bool| .n _ x,y=>decide ((show Int from y)=x)| .b x,y=>x==show Bool from y| .s x,y=>(show Str from y)==x| .l e,y=>List.isEmpty (show List e.D from y)| .ly x,y=>ad4 x (show List Ty from y)
inductive Sk where
 |unk|nilp|nilF|nils
 |k (c:CU)
 |lf (t:LT)
 |ptr (l off:Nat)
 |eptr (cs:List Sk)
 |agg (cs:List Sk)
 |tup (cs:List Sk)
 |func (f:Nat) (cs:List Sk)
 |mapr (l:Nat)
 |own (l:Nat)
 |psl (l z:Nat)
inductive HO where
 |dead
 |box (cs:List Sk)
 |bx (l:List (Nat×Sk))
 |own (e:ET)
 |mp (e:ET)
 |arr (e:ET)
inductive Ed where
 |r (n:Nat) (s:Sk)
 |o (l:Nat) (h:HO)
 |w (h:HO)
mutual
def Sk.Mr:Sk→List LT
 | .lf t=>[t]
 | .eptr cs=>Sk.SL cs
 | .agg cs=>Sk.SL cs
 | .tup cs=>Sk.SL cs
 | .func _ cs=>Sk.SL cs
 | .unk=>[]| .nilp=>[]| .nilF=>[]| .nils=>[]| .k _=>[]| .ptr _ _=>[]| .mapr _=>[]| .own _=>[]| .psl _ _=>[]
def Sk.SL:List Sk→List LT
 |[]=>[]
 |s::ss=>s.Mr++Sk.SL ss
end
def HO.Mr:HO->List LT| .dead=>[]| .box c=>Sk.SL c| .bx l=>l.flatMap λp=>p.2.Mr| .own e=>[.l e]| .mp e=>[.m e]| .arr e=>[.l e]
def bF:List Ed->List LT|[]=>[]| .r _ s::e=>s.Mr++bF e| .o _ h::e=>h.Mr++bF e| .w h::e=>h.Mr++bF e
section
variable {β:Type}
def yF{α:Type}l:=
 List.rec (motive:=λ_=>Nat->α->(List α->β)->β) (λ_ _ K=>K []) (λx s i n v K=>Nat.rec (motive:=λ_=>β) (K (v::s)) (λm _=>i m v λys=>K (x::ys)) n) l
def aBU{α:Type}l:=
 List.rec (motive:=λ_=>α->(List α->β)->β) (λv K=>K [v]) (λx _ i v K=>i v λys=>K (x::ys)) l
mutual
def fill(g:Nat→Nat):Sk→List U→(TV→List U→β)→β
 | .unk,us,K=>K .unk us
 | .nilp,us,K=>K .nilp us
 | .nilF,us,K=>K .nilF us
 | .k c,us,K=>K (.lf c.t c.x) us
 | .nils,us,K=>K .nils us
 | .lf _,us,K=>match us with
  |u::us=>K (.lf u.t u.x) us
  |[]=>K .unk []
 | .ptr l o,us,K=>K (.ptr (g l) o) us
 | .eptr cs,us,K=>fills g cs us fun vs us=>K (.eptr vs) us
 | .agg cs,us,K=>fills g cs us fun vs us=>K (.agg vs) us
 | .tup cs,us,K=>fills g cs us fun vs us=>K (.tup vs) us
 | .func f cs,us,K=>fills g cs us fun vs us=>K (.func f vs) us
 | .mapr l,us,K=>K (.mapr (g l)) us
 | .own l,us,K=>K (.own (g l)) us
 | .psl l z,us,K=>K (.psl (g l) z none) us
def fills(g:Nat→Nat):List Sk→List U→(List TV→List U→β)→β
 |[],us,K=>K [] us
 |s::ss,us,K=>fill g s us fun v us=>fills g ss us fun vs us=>K (v::vs) us
end
def VU(g:Nat->Nat):List (Nat×Sk)->Option (List TV)->List U->(Option (List TV)->List U->β)->β|[],c,u,K=>K c u|p::s,c,u,K=>fill g p.2 u λv u=>match c with|none=>VU g s none u K|some a=>match uD a p.1 [v] some with|some a=>VU g s (some a) u K|none=>VU g s none u K
def RN(g:Nat->Nat)(o:TObj):HO->List U->(TObj->List U->β)->β
 | .dead,u,K=>K .dead u| .box s,u,K=>fills g s u λvs u=>K (.box vs) u| .bx l,u,K=>match o with
  | .box s=>VU g l (some s) u λc u=>match c with|some s=>K (.box s) u|none=>K .dead u
  |_=>VU g l none u λ_ u=>K .dead u
 | .own _,u,K=>match u with|⟨.l e,x⟩::u=>K (.own e x) u|u=>K .dead u
 | .mp _,u,K=>match u with|⟨.m e,x⟩::u=>K (.mp e x) u|u=>K .dead u
 | .arr _,u,K=>match u with|⟨.l e,x⟩::u=>K (.arr e x) u|u=>K .dead u
def PW(g:Nat->Nat):List Ed->List U->List TV->List TObj->(List TV->List TObj->β)->β|[],_,t,h,K=>K t h| .r n s::e,u,t,h,K=>fill g s u λv u=>yF t n v λt=>PW g e u t h K| .o l s::e,u,t,h,K=>RN g (nth .dead h l) s u λv u=>yF h l v λh=>PW g e u t h K| .w s::e,u,t,h,K=>RN g .dead s u λv u=>aBU h v λh=>PW g e u t h K
end
def wE:Sk->Nat| .lf (.t e)=>e.sz|_=>1
mutual
def awy:Sk→TV→List (Nat×Nat)
 | .ptr j _,v=>match v with| .ptr l _=>[(j,l)]|_=>[]
 | .mapr j,v=>match v with| .mapr l=>[(j,l)]|_=>[]
 | .own j,v=>match v with| .own l=>[(j,l)]|_=>[]
 | .psl j _,v=>match v with| .psl l _ _=>[(j,l)]|_=>[]
 | .eptr cs,v=>match v with| .eptr vs=>TD cs vs|_=>[]
 | .agg cs,v=>match v with| .agg vs=>TD cs vs|_=>[]
 | .tup cs,v=>match v with| .tup vs=>TD cs vs|_=>[]
 | .func _ cs,v=>match v with| .func _ vs=>TD cs vs|_=>[]
 |_,_=>[]
def TD:List Sk→List TV→List (Nat×Nat)
 |s::ss,v::vs=>awy s v++TD ss vs
 |_,_=>[]
end
def asc(m:List (Nat×Nat))(j:Nat):=match m with|[]=>none|p::r=>bif Nat.beq p.1 j then some p.2 else asc r j
def aCi(H:List TObj)(m:List (Nat×Nat))(j:Nat):HO->List (Nat×Nat)
 | .box c=>match asc m j with
  |some l=>match nth .dead H l with
   | .box v=>TD c v|_=>[]
  |none=>[]
 | .bx i=>match asc m j with
  |some l=>match nth .dead H l with| .box v=>i.flatMap λp=>awy p.2 ((splitK 99 v p.1 λ_ b=>b.head?).getD .unk)|_=>[]
  |none=>[]
 |_=>[]
def Nv(t:List TV)(H:List TObj):Nat->List Ed->List (Nat×Nat)->List (Nat×Nat)|_,[],m=>m|j,.r n s::e,m=>Nv t H j e (m++awy s (nth .unk t n))|j,.o l h::e,m=>Nv t H j e (m++aCi H (m++[(l,l)]) l h)|j,.w h::e,m=>Nv t H (j+1) e (m++aCi H m j h)
def aC:List Ed->Nat|[]=>0| .w _::e=>aC e+1|_::e=>aC e
def aIN:TV->Bool| .lf (.t _) _=>true|_=>false
def hd1{a:Type}(vs:List TV)(F:TV->List TV->Option a):=match vs with|[]=>none|v::r=>bif aIN v then none else F v r
def oeq(a:Option Nat)(l:Nat):=match a with|some x=>Nat.beq x l|none=>false
section
variable {γ:Type}
mutual
def ext(m:Nat)(H:List TObj)(L:Nat→Option Nat):Sk→TV→(List U→Option γ)→Option γ
 | .unk,v,K=>match m with
  |0=>match v with| .unk=>K []|_=>none
  |_=>K []
 | .nilp,v,K=>match v with| .nilp=>K []|_=>none
 | .nilF,v,K=>match v with| .nilF=>K []|_=>none
 | .k c,v,K=>ug H (Nat.ble 1 m) c.t v fun u=>jU c.t u fun x=>bif c.is x then K []else none
 | .nils,v,K=>match v with| .nils=>K []|_=>none
 | .lf t,v,K=>match t with
  | .t e=>bif e.sc then none else match Em H v with
   |some cs=>RV H (Nat.ble 1 m) 60 (.t e) cs fun u r=>match r with|[]=>jU (.t e) u fun x=>K [⟨.t e,x⟩]|_=>none
   |none=>none
  |t=>ug H (Nat.ble 1 m) t v fun u=>jU t u fun x=>K [⟨t,x⟩]
 | .ptr j o,v,K=>match v with| .ptr l o'=>bif Nat.beq o o'&&oeq (L j) l then K []else none|_=>none
 | .mapr j,v,K=>match v with| .mapr l=>bif oeq (L j) l then K []else none|_=>none
 | .own j,v,K=>match v with
  | .own l=>bif oeq (L j) l then K []else none
  | .nils=>bif Nat.ble 2 m&&(L j).isNone then K []else none
  |_=>none
 | .psl j z,v,K=>match v with
  | .psl l z' none=>bif oeq (L j) l&&Nat.beq z z' then K []else none
  | .nils=>bif Nat.ble 2 m&&(L j).isNone then K []else none
  |_=>none
 | .eptr cs,v,K=>match v with
  | .eptr vs=>pW 0 H L cs vs K
  |_=>none
 | .agg cs,v,K=>match v with
  | .agg vs=>pW m H L cs vs K
  | .lf (.t e) x=>pW m H L cs [.lf (.t e) x] K
  |_=>none
 | .tup cs,v,K=>match v with
  | .tup vs=>ajO (bif Nat.ble 2 m then m else 0) H L cs vs K
  |_=>none
 | .func f cs,v,K=>match v with
  | .func f' vs=>bif Nat.beq f f' then ajO (bif Nat.ble 2 m then m else 0) H L cs vs K else none
  |_=>none
def ajO(m:Nat)(H:List TObj)(L:Nat→Option Nat):List Sk→List TV→(List U→Option γ)→Option γ
 |[],vs,K=>match vs with|[]=>K []|_=>none
 |s::ss,vs,K=>match vs with
  |[]=>none
  |v::r=>ext m H L s v fun us=>ajO m H L ss r fun us'=>K (us++us')
def pW(m:Nat)(H:List TObj)(L:Nat→Option Nat):List Sk→List TV→(List U→Option γ)→Option γ
 |[],vs,K=>match vs with|[]=>K []|_=>none
 |s::ss,vs,K=>match s with
  | .lf t=>RV H (Nat.ble 1 m) 60 t vs fun u r=>jU t u fun x=>pW m H L ss r fun us=>K (⟨t,x⟩::us)
  | .k c=>RV H (Nat.ble 1 m) 60 c.t vs fun u r=>jU c.t u fun x=>bif c.is x then pW m H L ss r K else none
  |s=>hd1 vs fun v r=>ext m H L s v fun us=>pW m H L ss r fun us'=>K (us++us')
end
def avV(m:Nat)(H:List TObj)(L:Nat->Option Nat)(vs:List TV):List (Nat×Sk)->(List U->Option γ)->Option γ|[],K=>K []|p::s,K=>splitK 99 vs p.1 λ_ b=>splitK 99 b (wE p.2) λc _=>pW m H L [p.2] c λus=>avV m H L vs s λus'=>K (us++us')
def ajY(m:Nat)(H:List TObj)(L:Nat->Option Nat)(o:TObj):HO->(List U->Option γ)->Option γ
 | .dead,K=>K []| .box c,K=>match o with| .box v=>pW m H L c v K|_=>none
 | .bx l,K=>match o with| .box v=>avV m H L v l K|_=>none
 | .own e,K=>match o with| .own a s=>jU (.l e) ⟨.l a,s⟩ λx=>K [⟨.l e,x⟩]|_=>none
 | .mp e,K=>match o with| .mp a s=>jU (.m e) ⟨.m a,s⟩ λx=>K [⟨.m e,x⟩]|_=>none
 | .arr e,K=>match o with| .arr a s=>jU (.l e) ⟨.l a,s⟩ λx=>K [⟨.l e,x⟩]|_=>none
def Ap(m o:Nat)(t:List TV)(H:List TObj)(L:Nat->Option Nat):Nat->List Ed->(List U->Option γ)->Option γ|_,[],K=>K []|j,.r n s::a,K=>ext m H L s (nth .unk t n) λus=>Ap m o t H L j a λus'=>K (us++us')|j,.o l h::a,K=>ajY o H L (nth .dead H l) h λus=>Ap m o t H L j a λus'=>K (us++us')|j,.w h::a,K=>match L j with|some l=>ajY o H L (nth .dead H l) h λus=>Ap m o t H L (j+1) a λus'=>K (us++us')|none=>match h with| .own e=>bif Nat.ble 2 m then Ap m o t H L (j+1) a λus'=>K (⟨.l e,[]⟩::us')else none| .arr e=>bif Nat.ble 2 m then Ap m o t H L (j+1) a λus'=>K (⟨.l e,[]⟩::us')else none|_=>none
end
mutual
def rfB(n:Nat):TV→Bool
 | .ptr l _=>Nat.blt l n
 | .mapr l=>Nat.blt l n
 | .own l=>Nat.blt l n
 | .psl l _ _=>Nat.blt l n
 | .ap l _ _ _=>Nat.blt l n
 | .eptr cs=>iB n cs
 | .agg cs=>iB n cs
 | .tup cs=>iB n cs
 | .func _ cs=>iB n cs
 | .unk=>true| .nilp=>true| .nilF=>true| .nils=>true| .lf _ _=>true| .nat _=>true
def iB(n:Nat):List TV→Bool
 |[]=>true
 |v::vs=>rfB n v&&iB n vs
end
def Gn(n:Nat):List TObj->Bool|[]=>true|o::s=>(match o with| .box c=>iB n c| .res=>false|_=>true)&&Gn n s
def eT(n:Nat):List Nat->List Nat->List Ed->Bool|_,_,[]=>true|s,o,.r k _::e=>!mem s k&&eT n (k::s) o e|s,o,.o l _::e=>Nat.blt l n&&(!mem o l&&eT n s (l::o) e)|s,o,.w _::e=>eT n s o e
def acn(l:Nat):List Ed->Bool
 |[]=>false| .o a h::e=>Nat.beq l a&&(match h with| .dead=>true|_=>false) ||acn l e
 |_::e=>acn l e
def arx(n len:Nat)(L:Nat->Option Nat)(eds:List Ed):Nat->Nat->List Nat->Bool|_,0,_=>true|j,c+1,s=>match L j with|none=>arx n len L eds (j+1) c s|some l=>Nat.blt l len&&(!mem s l&&((Nat.ble n l ||acn l eds)&&arx n len L eds (j+1) c (l::s)))
def LJ n N m j:=bif Nat.blt j n then some j else bif Nat.blt j N then asc m j else none
@[reducible] def RT(pe:Option (List Ed))(R:Type):Type:=match pe with
 |none=>R
 |some eds=>PZ R (jr (bF eds))
def RT.el{R δ:Type}:(p:Option (List Ed))->(R->Option δ)->((e:List Ed)->Int->jr (bF e)->Option δ)->RT p R->Option δ|none,f,_=>f|some e,f,g=>PZ.el f (g e)
def RT.ok{R:Type}:(p:Option (List Ed))->Option R->Option (RT p R)|none,o=>o|some _,o=>o.map PZ.ok
structure Ent where
 f:Nat
 na:Nat
 ps:List Ed
 nr:Nat
 rs:List Ed
 R:Type
 pe:Option (List Ed)
 g:Option (jr (bF ps)→Bool)
 F:jr (bF ps)→Option (RT pe R)
 out:R→jr (bF rs)
def dn(n:Nat):List TV:=List.replicate n .unk
def bI(n:Nat):=n
def res1:List TV->TV|[v]=>v|s=>.tup s
def kL l n:=nth 0 l n
def rng(k:Nat):Nat->List Nat|0=>[]|n+1=>k::rng (k+1) n
def Ko(f:Nat->Option Nat)(i:Nat):Nat->List Nat|0=>[]|n+1=>match f i with|some l=>l::Ko f (i+1) n|none=>Ko f (i+1) n
def nodupB:List Nat->Bool|[]=>true|x::s=>bif mem s x then false else nodupB s
section
variable {γ:Type}
def wrB(l:Nat)(cs:List TV):List (Nat×Sk)->(List TWr->Option γ)->Option γ|[],K=>K []|p::s,K=>splitK 99 cs p.1 λ_ b=>splitK 99 b (wE p.2) λc _=>wrB l cs s λws=>K (.st l p.1 c::ws)
def IK(ρ:List Nat)(h:List TObj):Nat->Nat->List Ed->(List TWr->Option γ)->Option γ
 |_,_,[],K=>K []|k,j,.o l d::e,K=>match d with
  | .bx i=>match nth .dead h l with| .box c=>wrB (kL ρ l) c i λws=>IK ρ h k j e λws'=>K (ws++ws')|_=>none
  | .dead=>IK ρ h k j e λws=>K (.kill (kL ρ l)::ws)|_=>IK ρ h k j e λws=>K (.ob (kL ρ l) (nth .dead h l)::ws)
 |k,j,.w _::e,K=>IK ρ h (k+1) (j+1) e λws=>K (.nw k (nth .dead h j)::ws)|k,j,.r _ _::e,K=>IK ρ h k j e K
end
def arf(H:List TObj)(k:Nat):Nat->Bool|0=>true|n+1=>lM (nth .dead H k)&&arf H (k+1) n
mutual
def WZ(n:Nat)(ds:List Nat):Sk→Bool
 | .ptr l _=>Nat.blt l n&&!(mem ds l)
 | .mapr l=>Nat.blt l n&&!(mem ds l)
 | .own l=>Nat.blt l n&&!(mem ds l)
 | .psl l _=>Nat.blt l n&&!(mem ds l)
 | .eptr cs=>ze n ds cs
 | .agg cs=>ze n ds cs
 | .tup cs=>ze n ds cs
 | .func _ cs=>ze n ds cs
 | .unk=>true| .nilp=>true| .nilF=>true| .nils=>true| .k _=>true| .lf _=>true
def ze(n:Nat)(ds:List Nat):List Sk→Bool
 |[]=>true
 |s::ss=>WZ n ds s&&ze n ds ss
end
def ai1(n:Nat)(ds:List Nat):HO->Bool| .box c=>ze n ds c| .bx i=>i.all λp=>WZ n ds p.2|_=>true
def killed:List Ed->List Nat
 |[]=>[]| .o l h::e=>(match h with| .dead=>[l]|_=>[])++killed e
 |_::e=>killed e
def ax3:HO->Bool| .box _=>true| .mp _=>true|_=>false
def aFN:HO->Bool| .box _=>true|_=>false
def kinds:List Ed->List HO|[]=>[]| .w h::e=>h::kinds e|_::e=>kinds e
def awx(i:List (Nat×Sk)):Nat->List Sk->List Sk|_,[]=>[]|q,s::a=>(bif Nat.beq (wE s) 1&&mem (i.flatMap λp=>rng (p.1+1) (wE p.2)) (q+1)then .unk else s)::awx i (q+wE s) a
def DJ(j:Nat):List Ed->Option HO|[]=>none| .o l h::e=>bif Nat.beq l j then some h else DJ j e| .r _ _::e=>DJ j e| .w _::e=>DJ j e
def akg(n:Nat)(r:List Ed)(j:Nat):HO->Bool
 | .box c=>ze n [] c&&match DJ j r with
  |none=>ze n (killed r) c|some (.bx i)=>ze n (killed r) (awx i 0 c)|some _=>true
 | .dead=>false| .bx _=>false|_=>true
def Pq(n:Nat)(r:List Ed):Nat->List Ed->Bool|_,[]=>true|j,.r _ s::e=>WZ n [] s&&Pq n r j e|j,.w h::e=>akg n r j h&&Pq n r (j+1) e|_,.o _ _::_=>false
def Ad(n:Nat)(ds:List Nat)(k:List HO):List Ed->Bool
 |[]=>true| .r _ s::e=>WZ n ds s&&Ad n ds k e| .w h::e=>(match h with| .dead=>false| .bx _=>false|h=>ai1 n ds h)&&Ad n ds k e
 | .o l h::e=>(match h with| .dead=>true| .own _=>false| .arr _=>false| .bx i=>ai1 n ds (.bx i)&&aFN (nth .dead k l)|h=>ai1 n ds h&&ax3 (nth .dead k l))&&Ad n ds k e
def jl:List Ed->List Nat|[]=>[]| .r n _::e=>n::jl e|_::e=>jl e
def awr(l:List Nat):Nat->Bool|0=>true|n+1=>mem l n&&awr l n
def M7(e:Ent):=
 (awr (jl e.ps) e.na&&(jl e.ps).all λk=>Nat.blt k e.na)&&(eT 0 [] [] e.ps&&(eT (aC e.ps) [] [] e.rs&&(Pq (aC e.ps) e.rs 0 e.ps&&Ad (aC e.ps+aC e.rs) (killed e.rs) (kinds e.ps) e.rs)))&&match e.pe with|none=>true|some d=>(jl d).isEmpty&&(eT (aC e.ps) [] [] d&&(Pq (aC e.ps) d 0 e.ps&&Ad (aC e.ps+aC d) (killed d) (kinds e.ps) d))
section
variable {γ:Type}
def arL(H)k(vs)(e:Ent)(K:Nat->List Nat->List TWr->TV->Option γ)(X:Nat->List Nat->List TWr->Int->Option γ):=
 let n:=aC e.ps
 let b:=aC e.rs
 let L:=LJ 0 n (Nv vs H 0 e.ps [])
 let a:=Ko L 0 n
 bif Nat.beq (List.length vs) e.na&&(Nat.beq a.length n&&(nodupB a&&arf H k b))then
  Ap 1 0 vs H L 0 e.ps λus=>zD (bF e.ps) us λx=>(e.F x).bind λr=>RT.el e.pe (λy=>
   PW (kL (a++rng k b)) e.ps us (dn e.na) [] λ_ h=>PW (kL (a++rng k b)) e.rs (eD _ (e.out y)) (dn e.nr) h λr c=>IK a c k n e.rs λws=>K b (a++rng k b) ws (res1 r)) (λeds v z=>bif arf H k (aC eds)then
    PW (kL (a++rng k (aC eds))) e.ps us (dn e.na) [] λ_ h=>PW (kL (a++rng k (aC eds))) eds (eD _ z) (dn 0) h λ_ c=>IK a c k n eds λws=>X (aC eds) (a++rng k (aC eds)) ws v else none) r
 else none
def aHl(H)vs(e:Ent):=Nat.beq (List.length vs) e.na&&(Ap 1 0 vs H (LJ 0 (aC e.ps) (Nv vs H 0 e.ps [])) 0 e.ps λ_=>some ()).isSome
def gdE(H)vs(e:Ent)(A B:Option γ):=match e.g with|none=>A|some g=>Ap 1 0 vs H (LJ 0 (aC e.ps) (Nv vs H 0 e.ps [])) 0 e.ps λus=>zD (bF e.ps) us λx=>cond (g x) A B
def aEP(f:Nat):List Ent->Bool|[]=>false|e::s=>Nat.beq e.f f ||aEP f s
def avG(H)(k f:Nat)vs(E)K(X):=
 List.rec (motive:=λ_=>Option γ) none (λe r i=>bif Nat.beq e.f f&&bif aEP f r then aHl H vs e else true then gdE H vs e (arL H k vs e K X) i else i) E
end
end
end
section
open Go
noncomputable section
structure DS where
 t:List TV
 h:List TObj
 d:List Nat
 o:List (Nat×Nat)
 up:List Nat
 rl:List (Nat×Nat×Nat)
 cp:List (Nat×Nat)
 oo:List (Nat×Nat)
inductive Hn where
 |jn (eds:List Ed) (lr:Bool)
 |lp (hd:List Ed) (e:Nat) (ex:List Ed)
 |fz (ls:List Nat)
 |ct (l b off:Nat)
 |ca (l b off:Nat)
 |fa (ls:List Nat)
structure Cfg where
 τ:Nat→TI
 θ:Nat→Option ET
 n:Nat
 R:Type
 hs:List (Nat×Hn)
 m:Nat
 te:Nat
 pn:Int→DS→Option R
mutual
def uZ(l:Nat):TV→Bool
 | .ptr l' _=>!(Nat.beq l' l)
 | .mapr l'=>!(Nat.beq l' l)
 | .own l'=>!(Nat.beq l' l)
 | .psl l' _ _=>!(Nat.beq l' l)
 | .ap l' _ _ _=>!(Nat.beq l' l)
 | .eptr cs=>pV l cs
 | .agg cs=>pV l cs
 | .tup cs=>pV l cs
 | .func _ cs=>pV l cs
 | .unk=>true| .nilp=>true| .nilF=>true| .nils=>true| .lf _ _=>true| .nat _=>true
def pV(l:Nat):List TV→Bool
 |[]=>true
 |v::vs=>uZ l v&&pV l vs
end
def azD(H:List TObj)(cs:List TV):Option (Decl×List Decl):=RV H false 60 (.t .dec) cs λu r=>match r with|[.lf (.f .dec) s]=>jU (.t .dec) u λx=>some (x,s)|[.nilp]=>jU (.t .dec) u λx=>some (x,[])|_=>none
def aaQ(H:List TObj)(l:Nat):Nat->TV
 |0=>match nth .dead H l with
  | .box c=>bif pV l c then(match azD H c with|some p=>.lf (.f .dec) (p.1::p.2)|none=>.eptr c)else .unk
  |_=>.unk
 |_+1=>.unk
def auU(H:List TObj)(l:Nat):TV:=match nth .dead H l with| .own e x=>.lf (.l e) x|_=>.unk
def auW(H:List TObj)(l z:Nat):Option Nat->TV
 |none=>match nth .dead H l with| .arr e x=>bif aaI e z then .lf (.l e) x else .unk|_=>.unk
 |some _=>.unk
mutual
def gB(H:List TObj)(l:Nat):TV→TV
 | .ptr l' o=>bif Nat.beq l' l then aaQ H l o else .ptr l' o
 | .mapr l'=>bif Nat.beq l' l then .unk else .mapr l'
 | .own l'=>bif Nat.beq l' l then auU H l else .own l'
 | .psl l' z c=>bif Nat.beq l' l then auW H l z c else .psl l' z c
 | .ap l' i z o=>bif Nat.beq l' l then .unk else .ap l' i z o
 | .eptr cs=>.eptr (mU H l cs)
 | .agg cs=>.agg (mU H l cs)
 | .tup cs=>.tup (mU H l cs)
 | .func f cs=>.func f (mU H l cs)
 | .unk=>.unk| .nilp=>.nilp| .nilF=>.nilF| .nils=>.nils| .lf t x=>.lf t x| .nat n=>.nat n
def mU(H:List TObj)(l:Nat):List TV→List TV
 |[]=>[]
 |v::vs=>gB H l v::mU H l vs
end
def Zc(H:List TObj)(l:Nat):TObj->TObj| .box c=>.box (mU H l c)| .res=>.dead|o=>o
def wC(H:List TObj)(l:Nat):Nat->List TObj->List TObj|_,[]=>[]|i,o::s=>(bif Nat.beq i l then .dead else Zc H l o)::wC H l (i+1) s
def aaw(l:Nat):Nat->List TV->List Nat|_,[]=>[]|k,v::s=>bif uZ l v then aaw l (k+1) s else k::aaw l (k+1) s
def OE(l:Nat):Nat->List TObj->List (Nat×Nat)|_,[]=>[]|i,o::s=>match o with| .box c=>bif pV l c then OE l (i+1) s else(i,0)::OE l (i+1) s|_=>OE l (i+1) s
def Mc(l:Nat)(s:DS):DS:=⟨mU s.h l s.t,wC s.h l 0 s.h,aaw l 0 s.t++s.d,(l,0)::(OE l 0 s.h++s.o),s.up,s.rl,s.cp,s.oo⟩
def hint(hs:List (Nat×Hn))(p:Nat):=match hs with|[]=>none|x::r=>bif Nat.beq x.1 p then some x.2 else hint r p
section
variable {γ:Type}
def plainO:TObj->Bool| .box _=>true| .mp _ _=>true| .dead=>true|_=>false
mutual
def aod(l:Nat):TV→Bool
 | .own l'=>Nat.beq l l'
 | .psl l' _ _=>Nat.beq l l'
 | .eptr cs=>kH l cs
 | .agg cs=>kH l cs
 | .tup cs=>kH l cs
 | .func _ cs=>kH l cs
 | .unk=>false| .nilp=>false| .nilF=>false| .nils=>false| .lf _ _=>false| .nat _=>false| .ptr _ _=>false| .mapr _=>false| .ap _ _ _ _=>false
def kH(l:Nat):List TV→Bool
 |[]=>false
 |v::vs=>aod l v ||kH l vs
end
def Vf(l:Nat):List TObj->Bool|[]=>false|o::s=>(match o with| .box c=>kH l c|_=>false) ||Vf l s
def fV(v:TV)(K:TV->Option γ):=match v with| .lf t x=>K (.lf t x)|v=>K v
def aB6{α:Type}l:=
 List.rec (motive:=λ_=>Nat->α->(List α->Option γ)->Option γ) (λ_ _ _=>none) (λx s i n v K=>Nat.rec (motive:=λ_=>Option γ) (K (v::s)) (λm _=>i m v λys=>K (x::ys)) n) l
def En:List TWr->DS->(DS->Option γ)->Option γ
 |[],s,K=>K s| .sl n v::w,s,K=>fV v λv=>aB6 s.t n v λt=>En w ⟨t,s.h,n::s.d,s.o,s.up.filter λi=>!Nat.beq i n,s.rl.filter λp=>!(Nat.beq p.1 n ||(Nat.beq p.2.1 n ||Nat.beq p.2.2 n)),s.cp.filter λp=>!(Nat.beq p.1 n ||Nat.beq p.2 n),s.oo⟩ K
 | .ob l o::w,s,K=>bif plainO o&&plainO (nth .dead s.h l)then yF s.h l o λh=>En w {s with h:=h,o:=(l,0)::s.o} K else none
 | .st l f a::w,s,K=>match nth .dead s.h l with
  | .box cs=>uD cs f a λcs=>yF s.h l (.box cs) λh=>En w {s with h:=h,o:=(rng (f+1) (widths a)).map (λq=>(l,q))++s.o} K
  |_=>none
 | .kill l::w,s,K=>match nth .dead s.h l with
  | .own e x=>yF s.h l (.gone e x) λh=>En w {s with h:=h,o:=(l,0)::s.o} K
  | .arr _ x=>yF s.h l (.gon x.length) λh=>En w {s with h:=h,o:=(l,0)::s.o} K
  | .box _=>yF s.h l .dead λh=>En w {s with h:=h,o:=(l,0)::s.o} K
  | .mp _ _=>yF s.h l .dead λh=>En w {s with h:=h,o:=(l,0)::s.o} K
  |_=>none
 | .nw l o::w,s,K=>bif lM (nth .dead s.h l)&&(plainO o ||!(kH l s.t ||Vf l s.h))then yF s.h l o λh=>En w {s with h:=h,o:=(l,0)::s.o} K else none
 | .up l i e y::w,s,K=>match nth .dead s.h l with
  | .arr b x=>match ET.eq? e b with
   |some ⟨q⟩=>yF s.h l (.arr b (upd x i (q▸y))) λh=>En w {s with h:=h,o:=(l,0)::s.o} K
   |none=>none
  |_=>none
def erase:List TWr->List Wr|[]=>[]| .sl n _::w=>.slot n .unk::erase w| .ob l _::w=>.obj l .dead::erase w| .st l _ _::w=>.obj l .dead::erase w| .kill l::w=>.obj l .dead::erase w| .nw l _::w=>.obj l .dead::erase w| .up l _ _ _::w=>.obj l .dead::erase w
def Ig(o:Oper)(s:DS):=match o.op,o.dst with
 | .binOp .lss _ (.tmp i) (.tmp j) _,some d=>bif Nat.beq d i ||Nat.beq d j then s else{s with rl:=(d,i,j)::s.rl}
 | .move (.tmp x),some d=>bif Nat.beq d x then s else{s with cp:=(d,x)::s.cp,up:=bif mem s.up x then d::s.up else s.up}
 |_,_=>s
def opK(τ:Nat->TI)(d:Nat->Option ET)(E:List Ent)(x:Int->DS->Option γ)(ops:List Oper)(o:Oper)(g:Nat->List Eff->DS->Option γ)(k:Nat)(es:List Eff)(s:DS):Option γ:=
 match lJ o.op with
 |some (f,a)=>match fq s.t f with| .func i p=>avG s.h k i (a.toList.map (fq s.t)++p) E (λnn b w v=>En (w++eZ o.dst v) s λs=>g (k+nn) (⟨aY ops.toArray o,b,b.map (λl=>.obj l .dead)++erase (eZ o.dst v)⟩::es) s) λ_ _ w c=>En w s λs=>x c s|_=>none
 |none=>dG τ d s.up k o.dst s.t s.h o.op λrd w=>En w s λs1=>g (k+jg o.op) (⟨aY ops.toArray o,rd,erase w⟩::es) (Ig o s1)
def gdK(ops:List Oper)(o:Oper)(s:DS)(A B:DS->Option γ):Option γ:=
 match o.guard with
 |none=>A s|some (j,w)=>match(ops[j]?).bind (·.dst)with
  |none=>none|some d=>match nth .unk s.t d with
   | .lf .b b=>bif w then cond b (yF s.t d (.lf .b true) λt=>A {s with t:=t}) (yF s.t d (.lf .b false) λt=>B {s with t:=t})else cond b (yF s.t d (.lf .b true) λt=>B {s with t:=t}) (yF s.t d (.lf .b false) λt=>A {s with t:=t})
   | .tup []=>B s|_=>none
def VG τ θ E px ops l:=
 List.rec (motive:=λ_=>Nat->List Eff->DS->(List Eff->DS->Option γ)->Option γ) (λ_ e s K=>K e.reverse s)
  (λo _ i k e s K=>gdK ops o s (opK τ θ E px ops o (λk e s=>i k e s K) k e) λs=>En (eZ o.dst (.tup [])) s λs=>i k (⟨aY ops.toArray o,[],erase (eZ o.dst (.tup []))⟩::e) s K) l
def yZ:List Oper->Nat|[]=>0|o::l=>(match lJ o.op with|some _=>5|none=>jg o.op)+yZ l
def xM:Nat->List TObj|0=>[]|n+1=>.res::xM n
def ahI l:=
 List.rec (motive:=λ_=>Nat->(List TObj->Option γ)->Option γ) (λ_ K=>K []) (λo _ i n K=>Nat.rec (motive:=λ_=>Option γ) (i 0 λr=>match r with|[]=>bif lM o then K []else K [o]|x::s=>K (o::x::s)) (λn _=>i n λr=>K (o::r)) n) l
def Gm{α:Type}:List α->Nat->(Nat->Option γ)->Option γ|[],n,K=>K n|_::l,n,K=>Gm l (n+1) K
def aBr:List Oper->List Nat|[]=>[]|o::l=>match o.dst with|some d=>d::aBr l|none=>aBr l
def nV:Code->List Nat| .region _ o _=>aBr o.toList| .seq a b=>nV a++nV b| .cond _ a b=>nV a++nV b| .block _ a=>nV a| .loop a=>nV a|_=>[]
def avg:List Nat->List Nat->Bool|[],_=>true|x::s,l=>mem l x&&avg s l
def aaP(H:List TObj):List Ed->List (Nat×Nat)
 |[]=>[]| .o l h::e=>(match h with
  | .bx i=>match nth .dead H l with| .box _=>i.flatMap λp=>(rng (p.1+1) (wE p.2)).map λq=>(l,q)|_=>[(l,0)]
  |_=>[(l,0)])++aaP H e
 |_::e=>aaP H e
def cov:List Ed->Nat->Nat->Bool
 |[],_,_=>false| .o l h::e,a,q=>Nat.beq l a&&(match h with| .bx i=>mem (i.flatMap λp=>rng (p.1+1) (wE p.2)) q|_=>true) ||cov e a q
 |_::e,a,q=>cov e a q
def avR l:=List.rec (motive:=λ_=>List TV->(List TV->Option γ)->Option γ) (λt K=>K t) (λn _ i t K=>yF t n .unk λt=>i t K) l
def JH(a)eds(s:DS)us(K:DS->Option γ):=
 let b:=a++jl eds
 avR b s.t λt=>PW bI eds us t s.h λt h=>K ⟨t,h,b++s.d,aaP h eds++s.o,s.up.filter λi=>!mem b i,[],[],s.oo⟩
def arA(n:Nat)(o:List (Nat×Nat))es:=o.all λx=>Nat.ble n x.1 ||cov es x.1 x.2
def DZ eds(s:DS)(K:Option γ):=Gm s.h 0 λn=>bif iB n s.t&&(Gn n s.h&&eT n [] [] eds)then K else none
def aqv(n)eds(t)h(K:List U->Option γ):=
 Gm h 0 λn'=>let L:=LJ n (n+aC eds) (Nv t h n eds []);bif arx n n' L eds n (aC eds) []then Ap 2 2 t h L n eds K else none
def Gl(a)eds(s s':DS)(K:List U->Option γ):=
 Gm s.h 0 λn=>bif avg s'.d (a++jl eds)&&arA n s'.o eds then aqv n eds s'.t s'.h K else none
def fresh(s:DS):={s with d:=[],o:=[],oo:=s.o++s.oo}
def aoV(m:Nat):List Nat->DS->(DS->Option γ)->Option γ|[],s,K=>K s|l::a,s,K=>Gm s.h 0 λn=>bif Nat.ble m l&&(Nat.blt l n&&(iB n s.t&&Gn n s.h))then aoV m a (Mc l s) K else none
def XA(l:Nat):List TV->List TV|[]=>[]|v::s=>(bif uZ l v then v else .unk)::XA l s
def ctK(l b off:Nat)(s:DS)(K:DS->Option γ):Option γ:=match nth .dead s.h l,nth .dead s.h b with
 | .arr e x,.box d=>splitK 99 d off λa r=>match r with
  | .psl f z (some c)::r=>Gm s.h 0 λn=>bif Nat.beq f l&&(pV l a&&pV l r)&&((OE l 0 s.h).all (λp=>Nat.beq p.1 b)&&(iB n s.t&&Gn n s.h))then
    bif Nat.ble c x.length then yF s.h l (.arr e (x.take c)) λh=>yF h b (.box (a++ .psl l z none::r)) λh=>K ⟨XA l s.t,h,aaw l 0 s.t++s.d,(l,0)::(b,off+1)::s.o,s.up,s.rl,s.cp,s.oo⟩else none
   else none
  |_=>none
 |_,_=>none
def fzH m(h:Option Hn)(s:DS)(K:DS->Option γ):=match h with|some (.fz a)=>aoV m a s K|some (.ct l b o)=>ctK l b o s K|_=>K s
def fzA m(h:Option Hn)(s:DS)(K:DS->Option γ):=match h with|some (.ca l b o)=>ctK l b o s K|some (.fa a)=>aoV m a s K|_=>K s
def sel{α:Type}(f:α->Bool)(g:α->Nat):List α->List Nat|[]=>[]|x::l=>bif f x then g x::sel f g l else sel f g l
def LX(x:Operand)(s:DS):DS:=match x with
 | .tmp d=>let u:=sel (λp=>Nat.beq p.1 d) (λp=>p.2.1) s.rl
  let u:=sel (λp=>mem u p.1) (λp=>p.2) s.cp++u
  let u:=sel (λp=>mem u p.2) (λp=>p.1) s.cp++u
  {s with up:=u++s.up}
 |_=>s
end
abbrev ExT(R:Type):=(a:Type)->Nat->DS->(R->Option a)->(Exit->DS->Option a)->Option a
def ajn(te:Nat)(t:List TV):List Oper->Option Int
 |[o,a]=>match o.op,o.dst,o.guard with
  | .makeInterface b (.const (.int .i64 e)),some d,none=>match a.op,a.dst,a.guard with| .panic (.tmp c),none,none=>bif Nat.beq b te&&(Nat.beq d c&&Nat.blt d t.length)then some e else none|_,_,_=>none
  |_,_,_=>none
 |_=>none
def exe(c:Cfg)E(ret:DS->Option c.R)code:=
 Code.rec (motive:=λ_=>ExT c.R)
  (skip:=λ_ _ s _ k=>k .normal s)
  (region:=λ_ o w _ p s i k=>fzH c.m (hint c.hs p) s λs=>match ajn c.te s.t o.toList with|some e=>bif w then none else(c.pn e s).bind i|none=>Gm s.h 0 λn=>VG c.τ c.θ E (λv s=>bif w then none else(c.pn v s).bind i) o.toList o.toList n [] {s with h:=s.h++xM (yZ o.toList)} λes s=>bif !w ||lF o.toList es then ahI s.h n λh=>fzA c.m (hint c.hs p) {s with h:=h} λs=>k .normal s else none)
  (seq:=λa _ f g j p s i k=>match hint c.hs p with
   |some (.jn d true)=>DZ d s <| Option.bind (f (LR (jr (bF d)) c.R) (2*p) (fresh s) (λr=>some (.rt r)) λe q=>match e with
     | .normal=>Gl (nV a) d s q λus=>zD (bF d) us λx=>some (.nx x)|_=>none) (LR.el (λx=>JH (nV a) d s (eD (bF d) x) λs=>g j (2*p+1) s i k) (λr=>i r))
   |some (.jn d false)=>DZ d s <| Option.bind (f (jr (bF d)) (2*p) (fresh s) (λ_=>none) λe q=>match e with
     | .normal=>Gl (nV a) d s q λus=>zD (bF d) us λx=>some x|_=>none) λx=>JH (nV a) d s (eD (bF d) x) λs=>g j (2*p+1) s i k
   |_=>f j (2*p) s i λe s=>match e with
    | .normal=>g j (2*p+1) s i k|e=>k e s)
  (cond:=λx _ _ f g j p s i k=>match fq s.t x with
   | .lf .b b=>cond b (f j (2*p) (LX x s) i k) (g j (2*p+1) s i k)|_=>none)
  (block:=λid _ u j p s i k=>u j (2*p) s i λe s=>match e with
   | .exit t=>bif Nat.beq t id then k .normal s else k (.exit t) s|e=>k e s)
  (loop:=λa u j p s i k=>match hint c.hs p with
   |some (.lp l e m)=>DZ l s <| DZ m s <| Gl (nV a) l s (fresh s) λus=>zD (bF l) us λx0=>
     Option.bind (aH (δ:=LR (jr (bF m)) c.R) (λrec x=>JH (nV a) l (fresh s) (eD (bF l) x) λs1=>u (LR (jr (bF m)) c.R) (2*p) s1 (λr=>some (.rt r)) λe' q=>match e' with| .normal=>Gl (nV a) l s q λus=>zD (bF l) us rec| .exit id=>bif Nat.beq id e then Gl (nV a) m s q λus=>zD (bF m) us λy=>some (.nx y)else none|_=>none) c.n x0) (LR.el (λy=>JH (nV a) m s (eD (bF m) y) λs=>k (.exit e) s) (λr=>i r))
   |_=>none)
  (rangeFunc:=λ_ _ _ _ _ _ _ _ _ _ _=>none)
  (exit:=λid _ _ s _ k=>k (.exit id) s)
  (scope:=λ_ _ _ _ _ _ _=>none)
  (label:=λ_ _ _ _ _ _=>none)
  (goto:=λ_ _ _ _ _ _=>none)
  (ret:=λ_ p s i _=>fzH c.m (hint c.hs p) s λs=>(ret s).bind i)
  (refuse:=λ_ _ _ _ _ _=>none)
  code
def ahU{b:Type}(τ:Nat->TI)(s:DS):List ResultVar->(List TV->Option b)->Option b|[],K=>K []| .tmp t::r,K=>ahU τ s r λvs=>K (nth .unk s.t t::vs)| .cell a t::r,K=>match nth .unk s.t a with
  | .ptr l o=>match nth .dead s.h l with| .box c=>ldK τ t o c λv=>ahU τ s r λvs=>K (v::vs)|_=>none
  |_=>none
def BD{R:Type}τ(m)rvs(rs)(inn:jr (bF rs)->Option R)s:=
 ahU τ s rvs λvs=>bif arA m (s.o++s.oo) rs then aqv m rs vs s.h λus=>zD (bF rs) us inn else none
def Sb{R:Type}(m:Nat):(p:Option (List Ed))->Int->DS->Option (RT p R)|none,_,_=>none|some e,v,s=>bif arA m (s.o++s.oo) e then aqv m e [] s.h λus=>zD (bF e) us λz=>some (.er v z)else none
def ajx(τ:Nat->TI)(a:Nat->Option ET)(n:Nat)(hs:List (Nat×Hn))(E:List Ent)(te:Nat)(fn:Func)(e:Ent)(inn:jr (bF e.rs)->Option e.R)(x:jr (bF e.ps)):Option (RT e.pe e.R):=
 match fn.body with
 |none=>none|some c=>PW bI e.ps (eD (bF e.ps) x) (List.replicate fn.ntmps (.tup [])) [] λt h=>
  exe ⟨τ,a,n,RT e.pe e.R,hs,aC e.ps,te,Sb (aC e.ps) e.pe⟩ E (λs=>RT.ok e.pe (BD τ (aC e.ps) fn.results.toList e.rs inn s)) c _ 1 ⟨t,h,[],[],[],[],[],[]⟩ some λx s=>match x with| .normal=>RT.ok e.pe (BD τ (aC e.ps) fn.results.toList e.rs inn s)|_=>none
end
end
section
open Go
def leS(a b:Str):=decide (a<=b)
def slices_Clone_int(_:Nat)p0:=app 8 ([]:List Int) p0
def nH(_:Nat)(p:List (Str×Bool)):=if p.length*16<=140737488355328 then some ((p.map (·.1)).mergeSort leS)else none
def akO(_:Nat)(_:List (Str×Bool)):=some ()
end
section
open Go
def strings_Compare(_:Nat)(a b:Str):=some (Lib.compareBytes a b)
def gJ(_:Nat):=some true
end
section
open Go
theorem Val.ind{P:Val->Prop}(h:∀k n s a,(∀t∈a,P t)->P (.mk k n s a)) t:P t:=by
 match t with| .mk k n s a=>exact h k n s a λu _=>Val.ind h u
termination_by SizeOf.sizeOf t
decreasing_by
 rename_i b;have:=qCM b;simp only[Val.mk.sizeOf_spec];omega
mutual
def lI:Val→Prop
 | .mk _ _ _ ks=>ks.length≤9223372036854775807∧VN ks
def VN:List Val→Prop
 |[]=>True
 |v::vs=>lI v∧VN vs
end
theorem alX:∀{vs:List Val},VN vs→∀v∈vs,lI v
 |[],_,_,h=>by cases h
 |v::vs,h,u,hu=>by
  simp only[VN]at h;rcases qAh.1 hu with rfl|hu
  ·exact h.1
  ·exact alX h.2 u hu
theorem lI.kids{v:Val}(h:lI v):v.kids.length≤9223372036854775807∧∀u∈v.kids,lI u:=by
 cases v;simp only[lI]at h;exact⟨h.1,alX h.2⟩
def jX(a b:Int):=cond (decide (a<b)) (-1) (cond (decide (b<a)) 1 0)
mutual
def bK:Val→Val→Int
 | .mk k n s ks,.mk k' n' s' ks'=>cond (jX k k' !=0) (jX k k') (cond (jX n n' !=0) (jX n n') (cond (Lib.compareBytes s s' !=0) (Lib.compareBytes s s') (dV ks ks')))
def dV:List Val→List Val→Int
 |[],[]=>0
 |[],_::_=> -1
 |_::_,[]=>1
 |a::asx,b::bs=>cond (bK a b !=0) (bK a b) (dV asx bs)
end
theorem ala:∀a b:Str,Lib.compareBytes a b= -1∨Lib.compareBytes a b=0∨Lib.compareBytes a b=1
 |[],[]=>by simp[Lib.compareBytes]
 |[],_::_=>by simp[Lib.compareBytes]
 |_::_,[]=>by simp[Lib.compareBytes]
 |a::x,b::y=>by
  have:=ala x y;simp only[Lib.compareBytes];split
  ·simp
  ·split
   ·simp
   ·exact this
theorem Mg:∀a b:Str,Op.bytesLess a b=(Lib.compareBytes a b== -1)∧(a==b)=(Lib.compareBytes a b==0)
 |[],[]=>by simp[Op.bytesLess,Lib.compareBytes]
 |[],_::_=>by simp[Op.bytesLess,Lib.compareBytes]
 |_::_,[]=>by simp[Op.bytesLess,Lib.compareBytes]
 |a::x,b::y=>by
  have ih:=Mg x y;simp only[Op.bytesLess,Lib.compareBytes];by_cases h1:a<b
  ·have:(a==b)=false:=by
    apply beq_false_of_ne;rintro rfl;exact absurd h1 (by simp)
   simp[h1,this]
  ·by_cases h2:b<a
   ·have:(a==b)=false:=by
     apply beq_false_of_ne;rintro rfl;exact absurd h2 (by simp)
    simp[h1,h2,this]
   ·have:a=b:=by
     have h1':=UInt8.not_lt.1 h1;have h2':=UInt8.not_lt.1 h2;exact qDn h2' h1'
    subst this;simp[ih.1,←ih.2]
end
section
open Go
theorem ajv a b:jX a b<0↔a<b:=by
 unfold jX
 grind
theorem pO a b:jX a b=0↔a=b:=by
 unfold jX
 grind
theorem ale a b:jX b a= - jX a b:=by
 unfold jX
 grind
theorem NT:∀s t,Lib.compareBytes s t=0↔s=t
 |[],[]=>by simp[Lib.compareBytes]|[],_::_=>by simp[Lib.compareBytes]|_::_,[]=>by simp[Lib.compareBytes]|a::s,b::t=>by
  have i:=NT s t;unfold Lib.compareBytes;by_cases c:a<b
  ·simp only[c,if_true];constructor
   ·intro h;cases h
   intro h;cases h;exact absurd c (by simp)
  by_cases d:b<a
  ·simp only[c,d,if_false,if_true];constructor
   ·intro h;cases h
   intro h;cases h;exact absurd d (by simp)
  simp only[c,d,if_false];have:a=b:=qDn (by simpa using d) (by simpa using c);subst this;rw[i];simp
theorem atI:∀s t,Lib.compareBytes t s= - Lib.compareBytes s t
 |[],[]=>by simp[Lib.compareBytes]|[],_::_=>by simp[Lib.compareBytes]|_::_,[]=>by simp[Lib.compareBytes]|a::s,b::t=>by
  have i:=atI s t;unfold Lib.compareBytes;by_cases c:a<b;·have:¬b<a:=λh=>absurd (UInt8.lt_trans c h) (by simp);simp[c,this]
  by_cases d:b<a;·simp[c,d]
  simp[c,d,i]
theorem aBX:∀s t u,Lib.compareBytes s t<0->Lib.compareBytes t u<0->Lib.compareBytes s u<0
 |[],[],_,h,_=>by simp[Lib.compareBytes]at h|_::_,[],_,h,_=>by simp[Lib.compareBytes]at h|[],_::_,[],_,h=>by simp[Lib.compareBytes]at h|[],_::_,_::_,_,_=>by simp[Lib.compareBytes]|_::_,_::_,[],_,h=>by simp[Lib.compareBytes]at h|a::s,b::t,c::u,f,d=>by
  have k:=aBX s t u;unfold Lib.compareBytes at f d|-;by_cases e:a<b
  ·by_cases i:b<c
   ·simp[UInt8.lt_trans e i]
   by_cases l:c<b;·simp_all
   have:b=c:=qDn (by simpa using l) (by simpa using i);subst this;simp[e]
  by_cases m:b<a;·simp_all
  have:a=b:=qDn (by simpa using m) (by simpa using e);subst this;simp only[e,if_false]at f;by_cases g:a<c;·simp[g]
  by_cases j:c<a;·simp[g,j]at d
  simp only[g,j,if_false]at d|-;exact k f d
def lex(x y:Int):=cond (x !=0) x y
theorem F4 x y:lex x y<0↔x<0∨x=0/\y<0:=by
 unfold lex
 grind
theorem P6 x y:lex x y=0↔x=0/\y=0:=by
 unfold lex
 grind
theorem Wt x y:lex (-x) (-y)= - lex x y:=by
 unfold lex
 grind
theorem CJ k n s ks k' n' s' ks':bK (.mk k n s ks) (.mk k' n' s' ks')=lex (jX k k') (lex (jX n n') (lex (Lib.compareBytes s s') (dV ks ks'))):=by unfold bK lex;rfl
theorem rQ a b asx bs:dV (a::asx) (b::bs)=lex (bK a b) (dV asx bs):=by simp only[dV,lex]
mutual
theorem gu:∀(a b:Val),bK a b=0↔a=b
 | .mk k n s ks,.mk k' n' s' ks'=>by
  rw[CJ,P6,P6,P6,pO,pO,NT,Vo ks ks'];simp
theorem Vo:∀(asx bs:List Val),dV asx bs=0↔asx=bs
 |[],[]=>by simp[dV]
 |[],_::_=>by simp[dV]
 |_::_,[]=>by simp[dV]
 |a::asx,b::bs=>by
  rw[rQ,P6,gu a b,Vo asx bs];simp
end
mutual
theorem pI:∀(a b:Val),bK b a= - bK a b
 | .mk k n s ks,.mk k' n' s' ks'=>by
  rw[CJ,CJ,ale k k',ale n n',atI s s',agb ks ks',Wt,Wt,Wt]
theorem agb:∀(asx bs:List Val),dV bs asx= - dV asx bs
 |[],[]=>by simp[dV]
 |[],_::_=>by simp[dV]
 |_::_,[]=>by simp[dV]
 |a::asx,b::bs=>by
  rw[rQ,rQ,pI a b,agb asx bs,Wt]
end
mutual
theorem zW:∀(a b c:Val),bK a b<0→bK b c<0→bK a c<0
 | .mk k n s ks,.mk k' n' s' ks',.mk k'' n'' s'' ks'',h1,h2=>by
  rw[CJ,F4,F4,F4,ajv,pO,ajv,pO,NT]at h1 h2⊢;rcases h1 with h1|⟨rfl,h1⟩
  ·rcases h2 with h2|⟨rfl,h2⟩
   ·left;omega
   ·left;exact h1
  ·rcases h2 with h2|⟨rfl,h2⟩
   ·left;exact h2
   ·right;refine⟨rfl,?_⟩;rcases h1 with h1|⟨rfl,h1⟩
    ·rcases h2 with h2|⟨rfl,h2⟩
     ·left;omega
     ·left;exact h1
    ·rcases h2 with h2|⟨rfl,h2⟩
     ·left;exact h2
     ·right;refine⟨rfl,?_⟩;rcases h1 with h1|⟨rfl,h1⟩
      ·rcases h2 with h2|⟨rfl,h2⟩
       ·left;exact aBX _ _ _ h1 h2
       ·left;exact h1
      ·rcases h2 with h2|⟨rfl,h2⟩
       ·left;exact h2
       ·right;exact⟨rfl,arW ks ks' ks'' h1 h2⟩
theorem arW:∀(asx bs cs:List Val),dV asx bs<0→dV bs cs<0→dV asx cs<0
 |[],[],_,h,_=>by simp[dV]at h
 |_::_,[],_,h,_=>by simp[dV]at h
 |[],_::_,[],_,h=>by simp[dV]at h
 |[],_::_,_::_,_,_=>by simp[dV]
 |_::_,_::_,[],_,h=>by simp[dV]at h
 |a::asx,b::bs,c::cs,h1,h2=>by
  rw[rQ,F4,gu]at h1 h2⊢;rcases h1 with h1|⟨rfl,h1⟩
  ·rcases h2 with h2|⟨rfl,h2⟩
   ·left;exact zW a b c h1 h2
   ·left;exact h1
  ·rcases h2 with h2|⟨rfl,h2⟩
   ·left;exact h2
   ·right;exact⟨rfl,arW asx bs cs h1 h2⟩
end
def Tf a b:=decide (bK a b<=0)
theorem axQ a b c (h:Tf a b=true)(h2:Tf b c=true):Tf a c=true:=by
 simp only[Tf,decide_eq_true_eq]at *;rcases qDf h with h|h
 ·rcases qDf h2 with h2|h2
  ·exact qDt (zW a b c h h2)
  rw[(gu b c).1 h2]at h;exact qDt h
 rw[(gu a b).1 h];exact h2
def kR a b:=bK a b<0
theorem Ci a:¬kR a a:=by have:=(gu a a).2 rfl;unfold kR;omega
theorem aa5{a b}(h:kR a b):¬kR b a:=by unfold kR at *;rw[pI a b];omega
def E9(a:Val):List Val->List Val|[]=>[a]|b::l=>cond (decide (bK a b<0)) (a::b::l) (cond (bK a b==0) (b::l) (b::E9 a l))
def sortV:List Val->List Val|[]=>[]|a::l=>E9 a (sortV l)
theorem aeo a:∀l x,x∈E9 a l↔x=a∨x∈l
 |[],x=>by simp[E9]|b::l,x=>by
  unfold E9;by_cases h:bK a b<0;·simp[h]
  by_cases c:bK a b=0;·have:=(gu a b).1 c;subst this;simp[c]
  have e:(bK a b==0)=false:=by simp[c]
  simp only[h,decide_false,cond_false,e,qAh,aeo a l x];constructor
  ·rintro(h|h|h)
   ·exact .inr (.inl h)
   ·exact .inl h
   exact .inr (.inr h)
  rintro(h|h|h);·exact .inr (.inl h)
  ·exact .inl h
  exact .inr (.inr h)
theorem adt a:∀l,l.Pairwise kR->(E9 a l).Pairwise kR
 |[],_=>by simp[E9]|b::l,h=>by
  have f:=qBc.1 h;unfold E9;by_cases d:bK a b<0
  ·simp only[d,decide_true,cond_true];refine qBc.2 ⟨λx c=>?_,h⟩;rcases qAh.1 c with rfl|c
   ·exact d
   exact zW a b x d (f.1 x c)
  by_cases g:bK a b=0;·simp[g];exact qBc.1 h
  have e:(bK a b==0)=false:=by simp[g]
  simp only[d,decide_false,cond_false,e];refine qBc.2 ⟨λx c=>?_,adt a l f.2⟩;rcases(aeo a l x).1 c with rfl|c
  ·show bK b x<0;rw[pI x b];omega
  exact f.1 x c
theorem eG:∀l x,x∈sortV l↔x∈l|[],x=>by simp[sortV]|a::l,x=>by rw[sortV,aeo,eG l x];simp
theorem iR:∀l,(sortV l).Pairwise kR|[]=>by simp[sortV]|a::l=>adt a _ (iR l)
theorem EB:∀(l m:List Val),l.Pairwise kR->m.Pairwise kR->(∀x,x∈l↔x∈m)->l=m
 |[],[],_,_,_=>rfl|[],b::m,_,_,h=>by have:=(h b).2 (by simp);cases this|a::l,[],_,_,h=>by have:=(h a).1 (by simp);cases this|a::l,b::m,i,j,h=>by
  have f:=qBc.1 i;have g:=qBc.1 j;have e:a=b:=by
   rcases qAh.1 ((h a).1 (by simp))with e|k
   ·exact e
   rcases qAh.1 ((h b).2 (by simp))with e|n
   ·exact e.symm
   exact absurd (f.1 b n) (aa5 (g.1 a k))
  subst e;rw[EB l m f.2 g.2 λx=>?_];constructor
  ·intro d;rcases qAh.1 ((h x).1 (by simp[d]))with e|c
   ·exact absurd (e▸f.1 x d) (Ci a)
   exact c
  intro d;rcases qAh.1 ((h x).2 (by simp[d]))with e|c
  ·exact absurd (e▸g.1 x d) (Ci a)
  exact c
theorem Ba{l m}(a:m.Pairwise kR)(h:∀x,x∈m↔x∈l):m=sortV l:=
 EB _ _ a (iR l) λx=>by rw[h x,eG]
theorem lK l:(sortV l).length<=l.length:=by
 have k:∀(a:Val) (l:List Val),(E9 a l).length<=l.length+1:=λa l=>by
  induction l with|nil=>simp[E9]|cons b l i=>
   unfold E9
   grind
 induction l with|nil=>simp[sortV]|cons a l i=>rw[sortV];have:=k a (sortV l);simp;omega
end
section
open Go
def AY(_:Nat)p0:=app 56 ([]:List Val) p0
def ji(_:Nat)p0:=app 56 ([]:List Val) p0
def xA(_:Nat)p0:=app 24 ([]:List (List Val)) p0
def wQ(_:Nat)(p:List Val):=some p
def jG(_:Nat)p0:=(app 56 [] p0).bind λr=>some (sortV r)
def Dz(_:Nat)(k:Int):Option (List Val):=bif decide (0<=k)&&decide (k*56<=140737488355328)then some []else none
def Au(n:Nat)p0(p1)(r:((List Val)×Int)->Option (LR (List Val) (List Val)))(s1:(List Val)×Int):=cond (decide (s1.2<p1)) ((app 56 s1.1 [(Val.mk 3 s1.2 p0 ([]))]).bind λ(x)=>r (x,(s1.2+1))) (some (.nx s1.1))
def aiV n p0 p1 k:=aH (Au n p0 p1) k
def Kq n p0 p1:=(aiV n p0 p1 n (([]),0)).bind (LR.el (λ(s:List Val)=>some s) λr=>some r)
def aph(n:Nat)p0(p1)(r:Int->Option (LR Unit Int))s1:=cond (decide (s1<(p0.length:Int))) ((idx p0 s1).bind λ(x:Str)=>cond (p1==x) (some (.rt s1)) (r (s1+1))) (some (.nx ()))
def adP n p0 p1 k:=aH (aph n p0 p1) k
def WX n p0 p1:=(adP n p0 p1 n 0).bind (LR.el (λ(s:Unit)=>some (-1)) λr=>some r)
def Ei(n)p0(p2)p5(r:Int->Option (LR Unit (PZ Val Unit)))s2:=cond (decide (s2<(p0.length:Int))) ((idx p0 s2).bind λ(x:Carrier)=>cond (x.name==p5) ((idx p2 s2).bind λ(b:Int)=>((Kq n x.name b).bind λ(c:List Val)=>some (.rt (.ok (Val.mk 5 0 ([]:Str) c))))) ((WX n x.elems p5).bind λ(a:Int)=>(cond (decide (0<=a)) (some (.rt (.ok (Val.mk 3 a x.name ([]))))) (r (s2+1))))) (some (.nx ()))
def VQ n p0 p2 p5 k:=aH (Ei n p0 p2 p5) k
def acd(n:Nat)p0(a:List Decl)p2(p:List (Str×Val))(b:List Bound)p5:=((mel (dO p p5) (some (false,0,0,([]:Str),([]:List Val))) (λ(x:Val)=>some (true,x.kind,x.n,x.name,x.kids))):Option (Bool×Int×Int×Str×(List Val))).bind λ(s:Bool×Int×Int×Str×(List Val))=>cond s.1 (some (.ok (Val.mk s.2.1 s.2.2.1 s.2.2.2.1 s.2.2.2.2))) ((VQ n p0 p2 p5 n 0).bind (LR.el (λ(c:Unit)=>some (.er 6 ())) (λr=>some r)))
def mq(n:Nat)(cs:List Carrier)(ds:List Decl)(s:List Int)(m:List (Str×Val))(o:List Bound)(a:Str):Option (PZ Val Unit):=
 match o.reverse.find? λb=>b.name==a with|some b=>some (.ok b.v)|none=>acd n cs ds s m o a
end
end Abs
end Go.Proofs.YtneeginmfjageaaGreat
