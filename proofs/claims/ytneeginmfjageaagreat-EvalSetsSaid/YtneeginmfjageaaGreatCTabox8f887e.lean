/-
  The records of the types that walks ask for. Conditions: none.
-/
import Derived.Test.YtneeginmfjageaaGreatProg
import Derived.KernelRfl
import Derived.Test.YtneeginmfjageaaGreatCAbs36oxadca21
set_option linter.unusedSimpArgs false
set_option linter.unusedVariables false
namespace Go.Proofs.YtneeginmfjageaaGreat
namespace Abs
section
open Go Go.Proofs
def ti3:TI:=⟨some 1,some false,false,false,false,false,false,some .i64,.no,[],[],some [.int .i64 0],some (.int .i64 0),none,none,none⟩
def ti4:TI:=⟨some 1,some false,false,true,false,false,false,none,.no,[],[],some [.bool false],some (.bool false),none,none,none⟩
def ti5:TI:=⟨some 1,some false,false,false,false,false,false,some .u8,.no,[],[],some [.int .u8 0],some (.int .u8 0),none,none,none⟩
def ti9:TI:=⟨some 1,some false,false,false,true,false,false,none,.no,[],[],some [.str []],some (.str []),none,none,none⟩
def aG3:TI:=⟨some 1,some false,false,false,false,false,false,none,.no,[],[],some [.unk],some .unk,none,none,none⟩
def aF6:TI:=⟨some 1,some false,false,false,false,false,true,none,.sl (some 2),[],[],some [.slice [] .nils],some (.slice [] .nils),some 2,some (63,2,40),none⟩
def aFY:TI:=⟨some 1,some false,false,false,false,false,true,none,.sl (some 4),[],[],some [.slice [] .nils],some (.slice [] .nils),some 4,some (66,4,64),none⟩
def aG4:TI:=⟨some 2,some true,false,false,false,true,false,none,.no,[some (0,22),some (1,23)],[some (0,1),some (1,1)],some [.slice [] .nils,.slice [] .nils],some (.agg [.slice [] .nils,.slice [] .nils]),none,none,none⟩
def aGB:TI:=⟨some 1,some false,false,false,false,false,true,none,.sl (some 1),[],[],some [.slice [] .nils],some (.slice [] .nils),some 1,some (3,1,8),none⟩
def aGh:TI:=⟨some 1,some false,false,false,false,false,true,none,.sl (some 4),[],[],some [.slice [] .nils],some (.slice [] .nils),some 4,some (40,4,56),none⟩
def aFX:TI:=⟨some 4,some true,false,false,false,true,false,none,.no,[some (0,25),some (2,26),some (3,27)],[some (0,2),some (2,1),some (3,1)],some [.slice [] .nils,.slice [] .nils,.slice [] .nils,.slice [] .nils],some (.agg [.slice [] .nils,.slice [] .nils,.slice [] .nils,.slice [] .nils]),none,none,none⟩
def aGI:TI:=⟨some 1,some false,false,false,false,false,true,none,.sl (some 3),[],[],some [.slice [] .nils],some (.slice [] .nils),some 3,some (32,3,48),none⟩
def aF9:TI:=⟨some 3,some true,false,false,false,true,false,none,.no,[some (0,3),some (1,9),some (2,30)],[some (0,1),some (1,1),some (2,1)],some [.int .i64 0,.str [],.slice [] .nils],some (.agg [.int .i64 0,.str [],.slice [] .nils]),none,none,none⟩
def aHa:TI:=⟨some 1,some false,false,false,false,false,true,none,.sl (some 7),[],[],some [.slice [] .nils],some (.slice [] .nils),some 7,some (35,7,104),none⟩
def aF3:TI:=⟨some 7,some true,false,false,false,true,false,none,.no,[some (0,3),some (1,9),some (2,3),some (3,32),some (6,33)],[some (0,1),some (1,1),some (2,1),some (3,3),some (6,1)],some [.int .i64 0,.str [],.int .i64 0,.int .i64 0,.str [],.slice [] .nils,.slice [] .nils],some (.agg [.int .i64 0,.str [],.int .i64 0,.int .i64 0,.str [],.slice [] .nils,.slice [] .nils]),none,none,none⟩
def aF2:TI:=⟨some 4,some true,false,false,false,true,false,none,.no,[some (0,3),some (1,3),some (2,9),some (3,27)],[some (0,1),some (1,1),some (2,1),some (3,1)],some [.int .i64 0,.int .i64 0,.str [],.slice [] .nils],some (.agg [.int .i64 0,.int .i64 0,.str [],.slice [] .nils]),none,none,none⟩
def aF0:TI:=⟨some 1,some false,false,false,false,false,false,some .i64,.no,[],[],some [.int .i64 0],some (.int .i64 0),none,none,none⟩
def aGf:TI:=⟨some 1,some false,false,false,false,false,true,none,.sl (some 1),[],[],some [.slice [] .nils],some (.slice [] .nils),some 1,some (33,1,24),none⟩
def aGT:TI:=⟨some 1,some false,false,false,false,false,true,none,.sl (some 1),[],[],some [.slice [] .nils],some (.slice [] .nils),some 1,some (9,1,16),none⟩
def aGm:TI:=⟨some 2,some true,false,false,false,true,false,none,.no,[some (0,9),some (1,61)],[some (0,1),some (1,1)],some [.str [],.slice [] .nils],some (.agg [.str [],.slice [] .nils]),none,none,none⟩
def aGO:TI:=⟨some 4,some true,false,false,false,true,false,none,.no,[some (0,9),some (1,32)],[some (0,1),some (1,3)],some [.str [],.int .i64 0,.str [],.slice [] .nils],some (.agg [.str [],.int .i64 0,.str [],.slice [] .nils]),none,none,none⟩
def aG6:TI:=⟨some 1,some false,true,false,false,false,false,none,.no,[],[],some [.nilp],some .nilp,none,none,none⟩
def aGo:TI:=⟨some 1,some false,false,false,false,false,false,none,.no,[],[],some [.nilFunc],some .nilFunc,none,none,none⟩
def aF8:TI:=⟨some 3,some true,false,false,false,true,false,none,.no,[some (0,3),some (1,9),some (2,3)],[some (0,1),some (1,1),some (2,1)],some [.int .i64 0,.str [],.int .i64 0],some (.agg [.int .i64 0,.str [],.int .i64 0]),none,none,none⟩
def aG8:TI:=⟨some 7,some true,false,false,false,true,false,none,.no,[some (0,9),some (1,93),some (4,3),some (5,3),some (6,41)],[some (0,1),some (1,3),some (4,1),some (5,1),some (6,1)],some [.str [],.int .i64 0,.str [],.int .i64 0,.int .i64 0,.int .i64 0,.int .i64 0],some (.agg [.str [],.int .i64 0,.str [],.int .i64 0,.int .i64 0,.int .i64 0,.int .i64 0]),none,none,none⟩
def aGt:TI:=⟨some 3,some true,false,false,false,true,false,none,.no,[some (0,3),some (1,3),some (2,3)],[some (0,1),some (1,1),some (2,1)],some [.int .i64 0,.int .i64 0,.int .i64 0],some (.agg [.int .i64 0,.int .i64 0,.int .i64 0]),none,none,none⟩
def aEr:TI:=⟨some 1,some false,true,false,false,false,false,none,.no,[],[],some [.nilp],some .nilp,none,none,none⟩
def aER:TI:=⟨some 1,some false,false,false,false,false,false,none,.no,[],[],some [.unk],some .unk,none,none,some 32⟩
def aE9:TI:=⟨some 1,some false,false,false,false,false,false,none,.no,[],[],some [.unk],some .unk,none,none,some 4⟩
def aFj:TI:=⟨some 1,some false,false,false,false,false,false,none,.no,[],[],some [.nilFunc],some .nilFunc,none,none,none⟩
def aE7:TI:=⟨some 57,some true,false,false,false,false,false,none,.arr 57 (some 1),[],[],some (List.replicate 57 .nilFunc),some (.agg (List.replicate 57 (.nilFunc))),none,none,none⟩
def aFh:TI:=⟨some 60,some true,false,false,false,true,false,none,.no,[some (0,106),some (1,107),some (2,110),some (59,26)],[some (0,1),some (1,1),some (2,57),some (59,1)],some [.unk,.unk,.nilFunc,.nilFunc,.nilFunc,.nilFunc,.nilFunc,.nilFunc,.nilFunc,.nilFunc,.nilFunc,.nilFunc,.nilFunc,.nilFunc,.nilFunc,.nilFunc,.nilFunc,.nilFunc,.nilFunc,.nilFunc,.nilFunc,.nilFunc,.nilFunc,.nilFunc,.nilFunc,.nilFunc,.nilFunc,.nilFunc,.nilFunc,.nilFunc,.nilFunc,.nilFunc,.nilFunc,.nilFunc,.nilFunc,.nilFunc,.nilFunc,.nilFunc,.nilFunc,.nilFunc,.nilFunc,.nilFunc,.nilFunc,.nilFunc,.nilFunc,.nilFunc,.nilFunc,.nilFunc,.nilFunc,.nilFunc,.nilFunc,.nilFunc,.nilFunc,.nilFunc,.nilFunc,.nilFunc,.nilFunc,.nilFunc,.nilFunc,.slice [] .nils],some (.agg [.unk,.unk,.nilFunc,.nilFunc,.nilFunc,.nilFunc,.nilFunc,.nilFunc,.nilFunc,.nilFunc,.nilFunc,.nilFunc,.nilFunc,.nilFunc,.nilFunc,.nilFunc,.nilFunc,.nilFunc,.nilFunc,.nilFunc,.nilFunc,.nilFunc,.nilFunc,.nilFunc,.nilFunc,.nilFunc,.nilFunc,.nilFunc,.nilFunc,.nilFunc,.nilFunc,.nilFunc,.nilFunc,.nilFunc,.nilFunc,.nilFunc,.nilFunc,.nilFunc,.nilFunc,.nilFunc,.nilFunc,.nilFunc,.nilFunc,.nilFunc,.nilFunc,.nilFunc,.nilFunc,.nilFunc,.nilFunc,.nilFunc,.nilFunc,.nilFunc,.nilFunc,.nilFunc,.nilFunc,.nilFunc,.nilFunc,.nilFunc,.nilFunc,.slice [] .nils]),none,none,none⟩
def aEn:TI:=⟨some 1,some false,false,false,false,false,false,none,.no,[],[],some [.unk],some .unk,none,none,some 40⟩
def aEE:TI:=⟨some 1,some false,false,false,false,false,true,none,.sl (some 5),[],[],some [.slice [] .nils],some (.slice [] .nils),some 5,some (222,5,72),none⟩
def aEC:TI:=⟨some 5,some true,false,false,false,true,false,none,.no,[some (0,25),some (2,26),some (3,113),some (4,114)],[some (0,2),some (2,1),some (3,1),some (4,1)],some [.slice [] .nils,.slice [] .nils,.slice [] .nils,.unk,.slice [] .nils],some (.agg [.slice [] .nils,.slice [] .nils,.slice [] .nils,.unk,.slice [] .nils]),none,none,none⟩
def aEY:TI:=⟨some 1,some false,false,false,false,false,true,none,.sl (some 5),[],[],some [.slice [] .nils],some (.slice [] .nils),some 5,some (169,5,72),none⟩
def aE5:TI:=⟨some 1,some false,true,false,false,false,false,none,.no,[],[],some [.nilp],some .nilp,none,none,none⟩
def aFe:TI:=⟨some 1,some false,true,false,false,false,false,none,.no,[],[],some [.nilp],some .nilp,none,none,none⟩
def aFf:TI:=⟨some 1,some false,false,false,false,false,false,none,.no,[],[],some [.nilFunc],some .nilFunc,none,none,none⟩
def aET:TI:=⟨some 5,some true,false,false,false,true,false,none,.no,[some (0,9),some (1,32),some (4,155)],[some (0,1),some (1,3),some (4,1)],some [.str [],.int .i64 0,.str [],.slice [] .nils,.nilp],some (.agg [.str [],.int .i64 0,.str [],.slice [] .nils,.nilp]),none,none,none⟩
def aFk:TI:=⟨some 1,some false,false,false,false,false,false,none,.no,[],[],some [.nilFunc],some .nilFunc,none,none,none⟩
def aEo:TI:=⟨some 8,some true,false,false,false,false,false,none,.arr 2 (some 4),[],[],some [.int .i64 0,.int .i64 0,.str [],.slice [] .nils,.int .i64 0,.int .i64 0,.str [],.slice [] .nils],some (.agg [.int .i64 0,.int .i64 0,.str [],.slice [] .nils,.int .i64 0,.int .i64 0,.str [],.slice [] .nils]),none,none,none⟩
def aFv:TI:=⟨some 5,some true,false,false,false,true,false,none,.no,[some (0,9),some (1,40)],[some (0,1),some (1,4)],some [.str [],.int .i64 0,.int .i64 0,.str [],.slice [] .nils],some (.agg [.str [],.int .i64 0,.int .i64 0,.str [],.slice [] .nils]),none,none,none⟩
def aEW:TI:=⟨some 1,some false,false,false,false,false,true,none,.sl (some 1),[],[],some [.slice [] .nils],some (.slice [] .nils),some 1,some (27,1,24),none⟩
def aE1:TI:=⟨some 1,some false,false,false,false,false,false,none,.no,[],[],some [.nilFunc],some .nilFunc,none,none,none⟩
def aEy:TI:=⟨some 1,some false,false,false,false,false,false,some .u64,.no,[],[],some [.int .u64 0],some (.int .u64 0),none,none,none⟩
def aEs:TI:=⟨some 1,some false,false,false,false,false,false,none,.no,[],[],some [.nilFunc],some .nilFunc,none,none,none⟩
def aFm:TI:=⟨some 5,some true,false,false,false,true,false,none,.no,[some (0,9),some (1,40)],[some (0,1),some (1,4)],some [.str [],.int .i64 0,.int .i64 0,.str [],.slice [] .nils],some (.agg [.str [],.int .i64 0,.int .i64 0,.str [],.slice [] .nils]),none,none,none⟩
def aEA:TI:=⟨some 1,some false,false,false,false,false,false,some .i64,.no,[],[],some [.int .i64 0],some (.int .i64 0),none,none,none⟩
def aEt:TI:=⟨some 1,some false,false,false,false,false,false,some .u32,.no,[],[],some [.int .u32 0],some (.int .u32 0),none,none,none⟩
def aEL:TI:=⟨some 1,some false,false,false,false,false,false,some .u64,.no,[],[],some [.int .u64 0],some (.int .u64 0),none,none,none⟩
def aE8:TI:=⟨some 1,some false,false,false,false,false,false,some .u64,.no,[],[],some [.int .u64 0],some (.int .u64 0),none,none,none⟩
def aE4:TI:=⟨some 1,some false,false,false,false,false,false,none,.no,[],[],some [.nilFunc],some .nilFunc,none,none,none⟩
def tab:Tr:=.node (.node (.node (.node (.node (.node .nil 3 ti3 .nil) 4 ti4 (.node .nil 5 ti5 .nil)) 9 ti9 (.node (.node .nil 20 aG3 .nil) 22 aF6 .nil)) 23 aFY (.node (.node (.node .nil 25 aG4 .nil) 26 aGB (.node .nil 27 aGh .nil)) 29 aFX (.node (.node .nil 30 aGI .nil) 32 aF9 .nil))) 33 aHa (.node (.node (.node (.node .nil 35 aF3 .nil) 40 aF2 (.node .nil 41 aF0 .nil)) 55 aGf (.node (.node .nil 61 aGT .nil) 63 aGm .nil)) 66 aGO (.node (.node (.node .nil 71 aG6 .nil) 85 aGo .nil) 93 aF8 (.node (.node .nil 96 aG8 .nil) 99 aGt .nil)))) 101 aEr (.node (.node (.node (.node (.node .nil 106 aER .nil) 107 aE9 (.node .nil 109 aFj .nil)) 110 aE7 (.node (.node .nil 112 aFh .nil) 113 aEn .nil)) 114 aEE (.node (.node (.node .nil 116 aEC .nil) 118 aEY (.node .nil 151 aE5 .nil)) 155 aFe (.node (.node .nil 157 aFf .nil) 159 aET .nil))) 163 aFk (.node (.node (.node (.node .nil 166 aEo .nil) 169 aFv (.node .nil 174 aEW .nil)) 185 aE1 (.node (.node .nil 202 aEy .nil) 214 aEs .nil)) 222 aFm (.node (.node (.node .nil 236 aEA .nil) 243 aEt .nil) 245 aEL (.node (.node .nil 257 aE8 .nil) 267 aE4 .nil))))
theorem aCM:tab.keys.map (TI.of Tryz.prog)=tab.vals:=by kernel_rfl
noncomputable def τ t:=tab.look (TI.of Tryz.prog) t
theorem lG:τ=TI.of Tryz.prog:=aCW aCM
theorem y9:Tryz.prog.follows .mixedOrders=true:=by kernel_rfl
end
section
open Go
def Ea(u:U):=zm (.lf u.t u.x) (ji u.t u.x)
def GX:List U→List AV
 | []=>[]
 | u::us=>Ea u++GX us
theorem akm H:∀us:List U,aU H (us.map fun u=>.lf u.t u.x)=GX us
 | []=>rfl
 | u::us=>by simp only[qAu,aU,GX,akm H us,Ea,av]
theorem Jt:∀(e:ET) x,(e.enc x).length=e.sz
 | .i,_=>rfl | .u,_=>rfl | .s,_=>rfl | .b,_=>rfl | .car,_=>rfl | .dec,_=>rfl
 | .ty,x=>by simp only[ET.enc,ku];rfl
 | .tm,x=>by simp only[ET.enc,sQ];rfl
 | .env,_=>rfl
 | .val,x=>by simp only[ET.enc,fF];rfl
 | .bnd,x=>by have:=fF x.v;simp only[ET.enc,this];rfl
 | .vals,_=>rfl | .tms,_=>rfl
theorem axi:∀(e:ET) x,GX (dU e.cs (e.un x))=e.enc x
 | .i,_=>rfl | .u,_=>rfl | .s,_=>rfl | .b,_=>rfl | .car,_=>rfl
 | .dec,x=>by
  have:=ku x.ty;simp only[ET.enc,ET.cs,ET.un,dU,GX,Ea,zm,ji,gM,this,qAM,qAt]
 | .ty,x=>by simp only[ET.enc,ku];rfl
 | .tm,x=>by
  have:=ku x.ty;simp only[ET.enc,ET.cs,ET.un,dU,GX,Ea,zm,ji,sQ,this,qAM,qAt]
 | .env,_=>rfl
 | .val,x=>by simp only[ET.enc,fF];rfl
 | .bnd,x=>by
  have:=fF x.v;simp only[ET.enc,ET.cs,ET.un,dU,GX,Ea,zm,ji,this,qAM,qAt]
 | .vals,_=>rfl | .tms,_=>rfl
theorem aEu:∀(e:ET) y,e.un (e.mk y)=y
 | .i,_=>rfl | .u,_=>rfl | .s,_=>rfl | .b,_=>rfl | .car,_=>rfl | .dec,_=>rfl | .ty,_=>rfl | .tm,_=>rfl | .env,_=>rfl | .val,_=>rfl | .bnd,_=>rfl | .vals,_=>rfl | .tms,_=>rfl
theorem aCO(e:ET) y:GX (dU e.cs y)=e.enc (e.mk y):=by rw[←axi,aEu]
theorem Fj H:∀a b:List TV,aU H (a++b)=aU H a++aU H b
 | [],_=>rfl
 | v::a,b=>by simp only[qAM,aU,Fj H a b,qAo]
theorem sZ H:∀a:List TV,aR H a=a.map (av H)
 | []=>rfl
 | v::a=>by simp only[aR,qAu,sZ H a]
theorem V5 H e x:aU H (comps e x)=e.enc x:=by
 unfold comps;rw[akm,axi]
def one v:=∀a,zm v a=[a]
theorem qZ v:one v∨∃e x,v=.lf (.t e) x:=by
 cases v with
 | lf t x=>cases t<;>first | exact .inr ⟨_,_,rfl⟩ | exact .inl fun _=>rfl
 | _=>exact .inl fun _=>rfl
theorem ajQ H v:(zm v (av H v)).length=width v:=by
 rcases qZ v with h | ⟨e,x,rfl⟩
 ·rw[h];cases v with
  | lf t x=>cases t<;>first | rfl | (have:=h .unk;simp only[zm] at this;rename_i e;have h2:=Jt e x;rw[this] at h2;simp only[width];exact h2)
  | _=>rfl
 ·exact Jt e x
theorem kF H:∀vs:List TV,(aU H vs).length=widths vs
 | []=>rfl
 | v::vs=>by simp only[aU,qAf,ajQ,kF H vs,widths]
theorem aY{γ:Type}{b}{X Y}{r:γ}(h:cond b X Y=some r):b=true∧X=some r∨b=false∧Y=some r:=by grind
section
variable {γ:Type}{b:γ}{H:List TObj}
theorem xZ:∀f cs n K,splitK f cs n K=some b→∃a r,aU H cs=aU H a++aU H r∧(aU H a).length=n∧K a r=some b:=by
 intro f
 induction f with
 | zero=>intro cs n K h;cases h
 | succ f ih=>
  intro cs n K h;unfold splitK at h;cases n with
  | zero=>exact⟨[],cs,rfl,rfl,h⟩
  | succ m=>
   cases cs with
   | nil=>cases h
   | cons c r=>
    rcases aY h with⟨hw,h⟩ | ⟨_,h⟩
    ·obtain⟨a,r',h1,h2,h3⟩:=ih _ _ _ h;have hw:=qAe hw;refine⟨c::a,r',?_,?_,h3⟩
     ·simp only[aU,h1,qAo]
     ·simp only[aU,qAf,ajQ];omega
    ·split at h
     ·rename_i e x;obtain⟨a,r',h1,h2,h3⟩:=ih _ _ _ h;refine⟨a,r',?_,h2,h3⟩;rw[←h1,Fj,V5];rfl
     ·cases h
theorem ay1:∀f cs K,amf f cs K=some b→∃v r,one v∧aU H cs=av H v::r∧K v=some b:=by
 intro f
 induction f with
 | zero=>intro cs K h;cases h
 | succ f ih=>
  intro cs K h;unfold amf at h;cases cs with
  | nil=>cases h
  | cons c r=>
   simp only at h;split at h
   ·rename_i e x;obtain⟨v,r',h1,h2,h3⟩:=ih _ _ h;refine⟨v,r'++aU H r,h1,?_,h3⟩;rw[V5] at h2;simp only[aU,zm,h2,qAM]
   ·rename_i hne;rcases qZ c with h1 | ⟨e,x,rfl⟩
    ·exact⟨c,aU H r,h1,by simp only[aU,h1 (av H c),qAM,qAt],h⟩
    grind
theorem aib c:av H (Y4 c)=.agg (aU H c):=by
 unfold Y4;split
 ·rename_i e x;simp only[av,ji,aU,zm,qAr]
 ·rfl
theorem Y5{P}{t off:Nat}{cs}{K}(h:ldK (TI.of P) t off cs K=some b):∃v,jh P t ((aU H cs).drop off)=some (av H v)∧K v=some b:=by
 unfold ldK at h;split at h
 ·rename_i hagg;have hagg:OH P t=some true:=hagg;split at h
  ·rename_i n hn;have hn:sizeT P t=some n:=hn;obtain⟨a,r,h1,h2,h3⟩:=xZ (H:=H) _ _ _ _ h;obtain⟨c,d,h4,h5,h6⟩:=xZ (H:=H) _ _ _ _ h3;refine⟨Y4 c,?_,h6⟩;have e1:(aU H cs).drop off=aU H c++aU H d:=by rw[h1,←h2,qDb,h4]
   simp only[jh,e1,qAf,h5,aib]
   grind
  ·cases h
 ·rename_i hagg;have hagg:OH P t=some false:=hagg;obtain⟨a,r,h1,h2,h3⟩:=xZ (H:=H) _ _ _ _ h;obtain⟨v,r',_,h4,h5⟩:=ay1 (H:=H) _ _ _ h3;refine⟨v,?_,h5⟩;have e1:(aU H cs).drop off=aU H r:=by rw[h1,←h2,qDb]
  simp only[jh,hagg,e1,h4]
 ·cases h
theorem FK{v}{cs}(h:DR H v=some cs):dM (av H v)=some (aU H cs):=by
 cases v with
 | lf t x=>cases t<;>first | (cases h;rfl) | (cases h;simp only[av,ji,dM,aU,zm,qAr]) | cases h
 | agg c=>cases h;rfl
 | unk=>cases h
 | tup c=>cases h
 | nat n=>cases h;rfl
 | own l=>
  simp only[DR] at h;split at h
  ·rename_i hl;cases h;simp only[av,hl,eP,aU,zm,dM,qAr]
  ·rename_i hl;cases h;simp only[av,hl,eP,aU,zm,dM,qAr]
  ·cases h
 | psl l z c=>
  cases c with
  | some n=>cases h;rfl
  | none=>
   simp only[DR] at h;split at h
   ·rename_i hl;cases h;simp only[av,hl,dO,aU,zm,dM,qAr]
   ·rename_i hl;cases h;simp only[av,hl,dO,aU,zm,dM,qAr]
   ·cases h
 | _=>cases h;rfl
inductive Cv:Bool→AV→AV→Prop where
 | same (w:Bool) (a:AV):Cv w a a
 | share (es:List (List AV)) (t:Tag):Cv true (.slice es .shared) (.slice es t)
 | nilF:Cv true (.flist []) .nilp
inductive Cvs(w:Bool):List AV→List AV→Prop where
 | nil:Cvs w [] []
 | cons {x y:AV} {xs ys:List AV}:Cv w x y→Cvs w xs ys→Cvs w (x::xs) (y::ys)
theorem Cvs.refl w:∀xs,Cvs w xs xs
 | []=>.nil
 | x::xs=>.cons (.same w x) (Cvs.refl w xs)
theorem Cvs.app{w}{a b c d}(h:Cvs w a c)(k:Cvs w b d):Cvs w (a++b) (c++d):=by
 induction h with
 | nil=>exact k
 | cons h _ ih=>exact .cons h ih
theorem Cvs.len{w}{a c}(h:Cvs w a c):a.length=c.length:=by
 induction h with
 | nil=>rfl
 | cons _ _ ih=>simp[ih]
theorem jG{t}{u}{K}(h:jM t u K=some b):∃x,u=⟨t,x⟩∧K x=some b:=by
 unfold jM at h;split at h
 ·rename_i e _;obtain⟨t',x⟩:=u
  grind
 ·cases h
theorem NU:∀{ts:List LT} {us:List U} {K:jg ts→Option γ},zD ts us K=some b→∃y,dU ts y=us∧K y=some b
 | [],us,K,h=>by
  unfold zD at h;split at h
  ·exact⟨(),rfl,h⟩
  ·cases h
 | [t],us,K,h=>by
  unfold zD at h;split at h
  ·obtain⟨x,rfl,h2⟩:=jG h;exact⟨x,rfl,h2⟩
  ·cases h
 | t::t'::ts,us,K,h=>by
  unfold zD at h;split at h
  ·obtain⟨x,rfl,h2⟩:=jG h;obtain⟨y,hy,h3⟩:=NU h2;exact⟨(x,y),by simp only[dU,hy],h3⟩
  ·cases h
theorem aeh{w}{t}{v}{K}(hv:one v)(h:tL H w t v K=some b):∃u,K u=some b∧Cv w (ji u.t u.x) (av H v)∧Ea u=[ji u.t u.x]:=by
 unfold tL at h;split at h
 ·rename_i t' x;exact⟨⟨t',x⟩,h,.same _ _,hv _⟩
 ·rename_i n;exact⟨_,h,.same _ _,rfl⟩
 ·cases w
  ·cases h
  ·simp only[cond_true] at h;split at h
   ·exact⟨_,h,.share [] .nils,rfl⟩
   ·cases h
 ·cases w
  ·cases h
  ·simp only[cond_true] at h;split at h
   ·exact⟨_,h,.nilF,rfl⟩
   ·cases h
 ·rename_i l;cases w
  ·cases h
  ·simp only[cond_true] at h;split at h
   ·rename_i e xs hl;exact⟨_,h,by simp only[av,hl];exact .share _ _,rfl⟩
   ·rename_i e xs hl;exact⟨_,h,by simp only[av,hl];exact .share _ _,rfl⟩
   ·cases h
 ·cases h
theorem aoL{w}{L}
  (hL:∀t cs K,L t cs K=some b→∃u r xs,K u r=some b∧aU H cs=xs++aU H r∧Cvs w (Ea u) xs):
  ∀ts cs K,afg L ts cs K=some b→∃us r xs,K us r=some b∧aU H cs=xs++aU H r∧Cvs w (GX us) xs
 | [],cs,K,h=>⟨[],cs,[],h,rfl,.nil⟩
 | t::ts,cs,K,h=>by
  obtain⟨u,r,xs,h1,h2,h3⟩:=hL _ _ _ h;obtain⟨us,r',ys,h4,h5,h6⟩:=aoL hL ts r _ h1;exact⟨u::us,r',xs++ys,h4,by rw[h2,h5,qAo],h3.app h6⟩
theorem TM{w}:∀f t cs K,P7 H w f t cs K=some b→∃u r xs,K u r=some b∧aU H cs=xs++aU H r∧Cvs w (Ea u) xs:=by
 intro f
 induction f with
 | zero=>intro t cs K h;cases h
 | succ f ih=>
  intro t cs K h;have pk:∀(e:ET),(afg (P7 H w f) e.cs cs fun us r=>zD e.cs us fun y=>K ⟨.t e,e.mk y⟩ r)=some b→∃u r xs,K u r=some b∧aU H cs=xs++aU H r∧Cvs w (Ea u) xs:=fun e h=>by
   obtain⟨us,r,xs,h1,h2,h3⟩:=aoL ih _ _ _ h;obtain⟨y,rfl,h4⟩:=NU h1;refine⟨_,r,xs,h4,h2,?_⟩;rw[aCO] at h3;exact h3
  unfold P7 at h;cases cs with
  | nil=>cases h
  | cons c r=>
   simp only at h;split at h
   ·rename_i e' x;have ex:∀t,P7 H w f t (comps e' x++r) K=some b→∃u r_1 xs,K u r_1=some b∧aU H (.lf (.t e') x::r)=xs++aU H r_1∧Cvs w (Ea u) xs:=fun t h=>by
     obtain⟨u,r',xs,h1,h2,h3⟩:=ih _ _ _ h;refine⟨u,r',xs,h1,?_,h3⟩;rw[Fj,V5] at h2;simp only[aU];exact h2
    split at h
    ·exact⟨_,r,e'.enc x,h,by simp only[aU,zm],Cvs.refl _ _⟩
    grind
   ·rename_i hne;split at h
    ·grind
    ·rcases qZ c with h1 | ⟨e,x,rfl⟩
     ·obtain⟨u,h2,h3,h4⟩:=aeh h1 h;exact⟨u,r,[av H c],h2,by simp only[aU,h1 (av H c)],by rw[h4];exact .cons h3 .nil⟩
     grind
theorem aAs{t}{v}{K}(ht:∀e,t≠ .t e)(h:(tL H true t v fun u=>jM t u K)=some b):∃x,K x=some b∧one v∧Cv true (ji t x) (av H v):=by
 rcases qZ v with h1 | ⟨e,x,rfl⟩
 ·obtain⟨u,h2,h3,_⟩:=aeh h1 h;obtain⟨x,rfl,h4⟩:=jG h2
  grind
 ·simp only[tL] at h;obtain⟨y,h5,_⟩:=jG h
  grind
theorem AX{e}{v}{K}(hsc:e.sc=false)(h:GJ H e v K=some b):∃x xs,K x=some b∧dM (av H v)=some xs∧Cvs true (e.enc x) xs∧(e.sc=true→xs=[av H v]):=by
 unfold GJ at h;split at h
 ·rename_i cs hc;obtain⟨u,r,xs,h1,h2,h3⟩:=TM _ _ _ _ h;split at h1
  ·obtain⟨x,rfl,h4⟩:=jG h1;refine⟨x,xs,h4,?_,h3,fun hs=>by rw[hsc] at hs;cases hs⟩;rw[FK hc,h2];simp only[aU,qAr]
  ·cases h1
 ·cases h
theorem aiV{t}{v}{K}{e:ET}{c:t.D→e.D}(ht:∀e,t≠ .t e)(he:∀x,e.enc (c x)=[ji t x])(h2:∀x y,Cv true (ji t x) y→dM y=some [y])(h:(tL H true t v fun u=>jM t u K)=some b):
  ∃x xs,K x=some b∧dM (av H v)=some xs∧Cvs true (e.enc (c x)) xs∧(e.sc=true→xs=[av H v]):=by
 obtain⟨x,h1,_,h3⟩:=aAs ht h;exact⟨x,[av H v],h1,h2 x _ h3,by rw[he];exact .cons h3 .nil,fun _=>rfl⟩
theorem ajn{e}{v}{K}(h:al4 H e v K=some b):∃x xs,K x=some b∧dM (av H v)=some xs∧Cvs true (e.enc x) xs∧(e.sc=true→xs=[av H v]):=by
 cases e with
 | i=>exact aiV (e:=.i) (c:=fun x=>x) (fun e h=>by cases h) (fun _=>rfl) (fun x y h=>by cases h;rfl) h
 | u=>exact aiV (e:=.u) (c:=fun x=>x) (fun e h=>by cases h) (fun _=>rfl) (fun x y h=>by cases h;rfl) h
 | s=>exact aiV (e:=.s) (c:=fun x=>x) (fun e h=>by cases h) (fun _=>rfl) (fun x y h=>by cases h;rfl) h
 | b=>exact aiV (e:=.b) (c:=fun x=>x) (fun e h=>by cases h) (fun _=>rfl) (fun x y h=>by cases h;rfl) h
 | car=>exact AX rfl h
 | dec=>exact AX rfl h
 | ty=>exact AX rfl h
 | tm=>exact AX rfl h
 | env=>exact AX rfl h
 | val=>exact AX rfl h
 | bnd=>exact AX rfl h
 | vals=>exact aiV (e:=.vals) (c:=fun x=>x) (fun e h=>by cases h) (fun _=>rfl) (fun x y h=>by cases h<;>rfl) h
 | tms=>exact aiV (e:=.tms) (c:=fun x=>x) (fun e h=>by cases h) (fun _=>rfl) (fun x y h=>by cases h<;>rfl) h
theorem azX{e}{v}{K}(h:al4 H e v K=some b):∃x xs,K x=some b∧dM (av H v)=some xs∧Cvs true (e.enc x) xs:=by
 obtain⟨x,xs,h1,h2,h3,_⟩:=ajn h
 grind
theorem aAI:∀(e:ET) x,(e.enc x).map shr=e.enc x
 | .i,_=>rfl | .u,_=>rfl | .s,_=>rfl | .b,_=>rfl | .car,_=>rfl
 | .dec,x=>rfl
 | .ty,x=>by simp only[ET.enc,ku];rfl
 | .tm,x=>by simp only[ET.enc,sQ];rfl
 | .env,_=>rfl
 | .val,x=>by simp only[ET.enc,fF];rfl
 | .bnd,x=>by have:=fF x.v;simp only[ET.enc,this];rfl
 | .vals,_=>rfl | .tms,_=>rfl
theorem azJ:∀(e:ET) x,AV.flist []∉e.enc x
 | .i,_=>by simp[ET.enc,encI] | .u,_=>by simp[ET.enc,JC] | .s,_=>by simp[ET.enc,encS] | .b,_=>by simp[ET.enc] | .car,_=>by simp[ET.enc,jH]
 | .dec,x=>by simp[ET.enc,gM]
 | .ty,x=>by simp[ET.enc,ku]
 | .tm,x=>by simp[ET.enc,sQ]
 | .env,_=>by simp[ET.enc]
 | .val,x=>by simp[ET.enc,fF]
 | .bnd,x=>by simp[ET.enc,fF]
 | .vals,x=>by simp[ET.enc]
 | .tms,x=>by simp[ET.enc]
theorem aBj{asz xs}(h:Cvs true asz xs)(h1:asz.map shr=asz)(h2:AV.flist []∉asz):xs.map shr=asz:=by
 induction h with
 | nil=>rfl
 | cons h _ ih=>
  simp only[qAu,List.cons.injEq,qAg,not_or] at h1 h2⊢;refine⟨?_,ih h1.2 h2.2⟩;cases h with
  | same=>exact h1.1
  | share=>rfl
  | nilF=>exact(h2.1 rfl).elim
theorem am2{e:ET}{x}{xs}(h:Cvs true (e.enc x) xs):xs.map shr=e.enc x:=aBj h (aAI e x) (azJ e x)
theorem OA:∀(e:ET) x,bU e.sz (e.enc x)=true
 | .i,_=>rfl | .u,_=>rfl | .s,_=>rfl | .b,_=>rfl | .car,_=>rfl | .dec,_=>rfl
 | .ty,x=>by simp only[ET.enc,ku];rfl
 | .tm,x=>by simp only[ET.enc,sQ];rfl
 | .env,_=>rfl
 | .val,x=>by simp only[ET.enc,fF];rfl
 | .bnd,x=>by have:=fF x.v;simp only[ET.enc,this];rfl
 | .vals,_=>rfl | .tms,_=>rfl
theorem ahx:∀H (e:ET) x,aU H [e.seg x]=e.enc x
 | _,.i,_=>rfl | _,.u,_=>rfl | _,.s,_=>rfl | _,.b,_=>rfl | _,.car,_=>rfl | _,.dec,_=>rfl | _,.ty,_=>by simp[aU,ET.seg,zm] | _,.tm,_=>by simp[aU,ET.seg,zm] | _,.env,_=>rfl | _,.val,_=>by simp[aU,ET.seg,zm]
 | _,.bnd,_=>by simp[aU,ET.seg,zm] | _,.vals,_=>rfl | _,.tms,_=>rfl
theorem ap8:∀H (e:ET) x,av H (e.seg x)=e.one x
 | _,.i,_=>rfl | _,.u,_=>rfl | _,.s,_=>rfl | _,.b,_=>rfl | _,.car,_=>rfl | _,.dec,_=>rfl | _,.ty,_=>rfl | _,.tm,_=>rfl | _,.env,_=>rfl | _,.val,_=>rfl | _,.bnd,_=>rfl | _,.vals,_=>rfl | _,.tms,_=>rfl
theorem aaC:∀(e:ET) g x,dG g (e.enc x)=e.enc x
 | .i,_,_=>rfl | .u,_,_=>rfl | .s,_,_=>rfl | .b,_,_=>rfl
 | .car,g,x=>aof g x | .dec,g,x=>awx g x | .ty,g,x=>aki g x | .tm,g,x=>aj3 g x
 | .env,g,x=>by simp only[ET.enc,dG,ren,pG,amM,avP]
 | .val,g,x=>MS g x
 | .bnd,g,x=>by simp only[ET.enc,dG,ren,MS g x.v]
 | .vals,g,x=>by simp only[ET.enc,dG,ren,pG,IU]
 | .tms,g,x=>by simp only[ET.enc,dG,ren,pG,aAX]
theorem l9(e:ET) g (l:List e.D):dV g (l.map e.enc)=l.map e.enc:=Nq (fun g x=>aaC e g x) g l
theorem Jf g:∀t x,ren g (ji t x)=ji t x
 | .n _,_=>rfl | .b,_=>rfl | .s,_=>rfl | .m _,_=>rfl
 | .l e,x=>by simp only[ji,ren,pG,l9]
 | .t e,x=>by simp only[ji,ren,aaC]
 | .f e,x=>by simp only[ji,ren,l9]
end
end
section
open Go
noncomputable section
def aA(H:List TObj):=H.map (fC H)
theorem jI H l:obj? (aA H) l=fC H (nth .dead H l):=by
 rw[iD];unfold obj? aA;rw[qAJ,List.getD];cases H[l]?<;>rfl
theorem aso H v:av H (aii v)=IZ v∧one (aii v):=by
 unfold aii IZ;split
 ·rename_i k n;dsimp only;by_cases h:k.min≤n∧n≤k.max
  ·rw[if_pos h,decide_eq_true h.1,decide_eq_true h.2];exact⟨rfl,fun _=>rfl⟩
  ·rw[if_neg h];have:(decide (k.min≤n)&&decide (n≤k.max))=false:=by
    grind
   rw[this];exact⟨rfl,fun _=>rfl⟩
 ·exact⟨rfl,fun _=>rfl⟩
 ·rename_i s;dsimp only;by_cases h:s.data.toList.length≤9223372036854775807
  ·rw[if_pos h,decide_eq_true h];exact⟨rfl,fun _=>rfl⟩
  ·rw[if_neg h,decide_eq_false h];exact⟨rfl,fun _=>rfl⟩
 ·exact⟨rfl,fun _=>rfl⟩
 ·exact⟨rfl,fun _=>rfl⟩
 ·exact⟨rfl,fun _=>rfl⟩
 ·rename_i h1 h2 h3 h4 h5 h6;split<;>first | exact⟨rfl,fun _=>rfl⟩ | (rename_i h;first | exact(h1 _ _ rfl).elim | exact(h2 _ rfl).elim | exact(h3 _ rfl).elim | exact(h4 rfl).elim | exact(h5 rfl).elim | exact(h6 rfl).elim)
theorem aoX H {α:Type} f g (h:∀a,av H (f a)=g a∧one (f a)):∀l:List α,aU H (l.map f)=l.map g
 | []=>rfl
 | a::l=>by simp only[qAu,aU,(h a).2 _,(h a).1,aoX H f g h l,qAM,qAt]
theorem aB3 H v:av H (ayg v)=ofConst v:=by
 unfold ayg ofConst;split
 ·simp only[av,aoX H aii IZ (aso H)]
 ·rename_i h;split
  ·grind
  ·exact(aso H v).1
theorem bM H t x:bA (aR H t) x=av H (eF t x):=by
 cases x with
 | tmp n=>
  simp only[bA,eF,iD,sZ,List.getD,qAJ];cases t[n]?<;>rfl
 | const v=>exact(aB3 H v).symm
 | func f=>rfl
 | global g=>rfl
def Zw(H:List TObj):TWr→List TObj
 | .sl _ _=>H
 | .ob l o=>H.set l o
 | .st l off vs=>match nth .dead H l with
  | .box cs=>match tX cs off vs some with
   | some cs=>H.set l (.box cs)
   | none=>H
  | _=>H
 | .kill l=>match nth .dead H l with
  | .own e xs=>H.set l (.gone e xs)
  | .arr _ xs=>H.set l (.gon xs.length)
  | .box _=>H.set l .dead
  | .mp _ _=>H.set l .dead
  | _=>H
 | .nw l o=>H.set l o
 | .up l i e y=>match nth .dead H l with
  | .arr e' xs=>match ET.eq? e e' with
   | some ⟨q⟩=>H.set l (.arr e' (upd xs i (q▸y)))
   | none=>H
  | _=>H
def G5(H:List TObj):TWr→Wr
 | .sl n v=>.slot n (av H v)
 | .ob l o=>.obj l (fC (H.set l o) o)
 | .st l off vs=>.obj l (match fC H (nth .dead H l) with | .box cs=>.box (cs.take off++aU H vs++cs.drop (off+(aU H vs).length)) | o=>o)
 | .kill l=>.obj l .dead
 | .nw l o=>.obj l (fC (H.set l o) o)
 | .up l i e y=>.obj l (match nth .dead H l with
  | .arr e' xs=>match ET.eq? e e' with
   | some ⟨q⟩=>.arr e'.sz ((upd xs i (q▸y)).map e'.enc)
   | none=>.dead
  | _=>.dead)
def BD(H:List TObj):List TWr→List Wr
 | []=>[]
 | w::ws=>G5 H w::BD (Zw H w) ws
theorem jy H d v:BD H (eH d v)=au d (av H v):=by cases d<;>rfl
def mO:TV→Option (IntKind×Int)
 | .lf (.n k) x=>some (k,x)
 | .nat n=>some (.i64,n)
 | _=>none
theorem anJ{H}{v}{k}{a}(h:av H v=.int k a):mO v=some (k,a):=by
 cases v with
 | lf t x=>cases t<;>simp only[av] at h<;>first | (cases h;rfl) | cases h
 | nat n=>cases h;rfl
 | own l=>simp only[av] at h;unfold eP at h;split at h<;>cases h
 | psl l z c=>
  cases c with
  | none=>simp only[av] at h;unfold dO at h;split at h<;>cases h
  | some n=>cases h
 | _=>cases h
theorem avE{H}{v}{k}{a}(h:mO v=some (k,a)):av H v=.int k a:=by
 unfold mO at h;split at h
 ·cases h;rfl
 ·cases h;rfl
 ·cases h
def Kup t up:=∀i k a,mem up i=true→mO (nth .unk t i)=some (k,a)→k.wrap (a+1)=a+1
def Krl t(rl:List (Nat×Nat×Nat)):=∀d i j,(d,i,j)∈rl→∀k a,mO (nth .unk t i)=some (k,a)→∃c,mO (nth .unk t j)=some (k,c)∧∀b,nth .unk t d=.lf .b b→b=decide (a<c)
section
variable {P:Program}{γ:Type}{b:γ}{H:List TObj}{t:List TV}{θ:Nat→Option ET}{up:List Nat}{k:Nat}{o:Oper}{K:List Nat→List TWr→Option γ}
def apL t(o:Oper)(ws:List TWr):=∀d i j tt g,o.op=.binOp .lss tt (.tmp i) (.tmp j) g→o.dst=some d→
 ∃v,ws=[.sl d v]∧∀k a,mO (nth .unk t i)=some (k,a)→∃c,mO (nth .unk t j)=some (k,c)∧∀b,v=.lf .b b→b=decide (a<c)
def qC(P)H(t)k(o)(K:List Nat→List TWr→Option γ)b:=
 ∃rd ws ws',aJ P k o (bA (aR H t)) (obj? (aA H))=some (rd,ws')∧((∀x∈o.op.operands,VF (bA (aR H t) x))→ws'=BD H ws)∧apL t o ws∧K rd ws=some b
theorem aCU{v}{a}(h:aB P o.op (bA (aR H t))=some a)(hv:(∀x∈o.op.operands,VF (bA (aR H t) x))→a=av H v)(hr:apL t o (eH o.dst v))(hK:K [] (eH o.dst v)=some b):qC P H t k o K b:=
 ⟨[],eH o.dst v,au o.dst a,by simp only[aJ,h],fun hx=>by rw[hv hx,jy],hr,hK⟩
def apk:Op→Bool
 | .binOp _ _ _ _ _=>false
 | _=>true
theorem aiJ(h:apk o.op=true) ws:apL t o ws:=fun _ _ _ _ _ e=>by rw[e] at h;cases h
theorem Gf{rd}{ws}(h:aJ P k o (bA (aR H t)) (obj? (aA H))=some (rd,BD H ws))(hK:K rd ws=some b)(hn:apk o.op=true:=by rfl):qC P H t k o K b:=
 ⟨rd,ws,_,h,fun _=>rfl,aiJ hn ws,hK⟩
theorem lC{v}(h:aB P o.op (bA (aR H t))=some (av H v))(hK:K [] (eH o.dst v)=some b)(hn:apk o.op=true:=by rfl):qC P H t k o K b:=
 aCU h (fun _=>rfl) (aiJ hn _) hK
theorem zL{v}{K}(h:LU v K=some b):∃k n,av H v=.int k n∧K k n=some b∧(isNat v=true→∃m:Nat,v=.nat m∧k=.i64∧n=m):=by
 unfold LU at h;split at h
 ·exact⟨_,_,rfl,h,fun h=>by cases h⟩
 ·rename_i m;exact⟨_,_,rfl,h,fun _=>⟨m,rfl,rfl,rfl⟩⟩
 ·cases h
theorem axR{p q}{op}{tt}{kk}{a c}{K}(h:anK p q op kk a c K=some b)
  (hp:p=true→kk.wrap (a+1)=a+1) (hq:q=true→kk=.i64∧0≤a):
  ∃v x,lT P op tt (.int kk a) (.int kk c)=some x∧(qy kk a→x=av H v)∧K v=some b∧(op=.lss→v=.lf .b (decide (a<c))):=by
 have one1:ame c=true→c=1:=fun h=>by unfold ame at h;split at h;rfl;cases h
 unfold anK at h;split at h
 ·rcases aY h with⟨hb,h⟩ | ⟨_,h⟩
  ·simp only[qAa] at hb;have:=one1 hb.2;subst this;exact⟨_,_,by simp only[lT,if_true,hp hb.1,av,ji],fun _=>rfl,h,fun e=>by cases e⟩
  ·exact⟨_,_,by simp only[lT,if_true,av,ji],fun _=>rfl,h,fun e=>by cases e⟩
 ·rcases aY h with⟨hb,h⟩ | ⟨_,h⟩
  ·simp only[qAa] at hb;have:=one1 hb.2;subst this;obtain⟨rfl,h1⟩:=hq hb.1;refine⟨.lf (.n .i64) (a - 1),_,by simp only[lT,if_true];rfl,fun hw=>?_,h,fun e=>by cases e⟩;have h2:a≤9223372036854775807:=hw.2;exact congrArg (AV.int .i64) (avy (n:=a - 1) (by omega) (by omega)).symm
  ·exact⟨_,_,by simp only[lT,if_true,av,ji],fun _=>rfl,h,fun e=>by cases e⟩
 ·exact⟨_,_,by simp only[lT,if_true,av,ji],fun _=>rfl,h,fun e=>by cases e⟩
 ·split at h
  ·obtain⟨x,h1,h2⟩:=ob h;unfold amO at h1;split at h1
   ·cases h1
   ·rename_i hc;cases h1;exact⟨_,_,by simp only[lT,if_true,hc,if_false,av,ji],fun _=>rfl,h2,fun e=>by cases e⟩
  ·cases h
 ·obtain⟨x,h1,h2⟩:=ob h;unfold adK at h1;split at h1
  ·cases h1
  ·rename_i hc;cases h1;exact⟨.lf (.n kk) _,_,by simp only[lT,if_true,hc,if_false,av,ji],fun _=>rfl,h2,fun e=>by cases e⟩
 ·exact⟨_,_,by simp only[lT,if_true,av,ji],fun _=>rfl,h,fun e=>by cases e⟩
 ·exact⟨_,_,by simp only[lT,if_true,av,ji],fun _=>rfl,h,fun e=>by cases e⟩
 ·exact⟨_,_,by simp only[lT,if_true,av,ji],fun _=>rfl,h,fun _=>rfl⟩
 ·exact⟨_,_,by simp only[lT,if_true,av,ji],fun _=>rfl,h,fun e=>by cases e⟩
 ·exact⟨_,_,by simp only[lT,if_true,av,ji],fun _=>rfl,h,fun e=>by cases e⟩
 ·exact⟨_,_,by simp only[lT,if_true,av,ji],fun _=>rfl,h,fun e=>by cases e⟩
 ·split at h
  ·obtain⟨x,h1,h2⟩:=ob h;unfold YK at h1;split at h1
   ·rename_i hc;cases h1;have hb:(IntKind.i64.bits:Int)=64:=rfl;exact⟨.lf (.n .i64) _,_,by simp only[lT,if_true,hb];rw[if_pos ⟨hc.1,by omega⟩];rfl,fun _=>rfl,h2,fun e=>by cases e⟩
   ·cases h1
  ·cases h
 ·obtain⟨x,h1,h2⟩:=ob h;unfold apl at h1;split at h1
  ·rename_i hc;cases h1;exact⟨.lf (.n kk) _,_,by simp only[lT,if_true];rw[if_pos hc];rfl,fun _=>rfl,h2,fun e=>by cases e⟩
  ·cases h1
 ·cases h
theorem aBu{op}{tt}{a c}{K}(h:azk op a c K=some b):∃v,lT P op tt (.str a) (.str c)=some (av H v)∧K v=some b:=by
 unfold azk at h;split at h
 ·obtain⟨x,h1,h2⟩:=ob h;unfold at5 at h1;split at h1
  ·rename_i hc;cases h1;exact⟨_,by simp only[lT,if_pos hc];rfl,h2⟩
  ·cases h1
 all_goals first | cases h | exact⟨_,rfl,h⟩
theorem aB4{p o}{op}{tt}{x y}{K}(h:ay7 (TI.of P) p o op tt x y K=some b)
  (hp:p=true→∀k a,mO x=some (k,a)→k.wrap (a+1)=a+1):
  ∃v r,lT P op tt (av H x) (av H y)=some r∧(VF (av H x)→r=av H v)∧K v=some b∧(op=.lss→∀k a,mO x=some (k,a)→∃c,mO y=some (k,c)∧v=.lf .b (decide (a<c))):=by
 unfold ay7 at h;split at h
 ·rcases aY h with⟨hb,h⟩ | ⟨_,h⟩
  ·have hb:afS P tt=true:=hb;split at h
   all_goals first
    | cases h
    | (refine⟨_,_,?_,fun _=>rfl,h,fun e=>by cases e⟩;simp only[av,ji,lT,hb,if_true,KT];done)
    | (refine⟨_,_,?_,fun _=>rfl,h,fun e=>by cases e⟩;simp only[av,ji,lT,hb,if_true,KT];rename_i l _;cases l<;>rfl)
  ·cases h
 ·split at h
  ·obtain⟨v,h1,h2⟩:=aBu (H:=H) h;exact⟨v,_,h1,fun _=>rfl,h2,fun _ k a hx=>by cases hx⟩
  ·cases h
 ·split at h
  ·rcases aY h with⟨hb,h⟩ | ⟨_,h⟩
   ·have hb:aaH P tt=true:=hb;unfold aAo at h;split at h
    all_goals first | cases h | exact⟨_,_,by simp only[av,ji,lT,hb,if_true],fun _=>rfl,h,fun e=>by cases e⟩
   ·cases h
  ·cases h
 ·obtain⟨k1,a,e1,h1,hn⟩:=zL (H:=H) h;obtain⟨k2,c,e2,h2,_⟩:=zL (H:=H) h1;rcases aY h2 with⟨hk,h3⟩ | ⟨_,h3⟩
  ·have hk:k1=k2:=by
    have:=qAj hk;cases k1<;>cases k2<;>first | rfl | cases this
   subst hk;obtain⟨v,r,g1,g2,g3,g4⟩:=axR (P:=P) (H:=H) (tt:=tt) h3 (fun e=>hp (qBG.1 e).1 _ _ (anJ e1)) (fun e=>by
    obtain⟨m,rfl,rfl,rfl⟩:=hn (qBG.1 e).1;exact⟨rfl,by omega⟩)
   rw[e1,e2];exact⟨v,r,g1,g2,g3,fun e k a' hx=>by
    rw[anJ e1] at hx;cases hx;exact⟨c,anJ e2,g4 e⟩⟩
  ·cases h3
end
end
end
section
open Go
section
variable {P:Program}{γ:Type}{b:γ}{H:List TObj}{t:List TV}{θ:Nat→Option ET}{up:List Nat}{k:Nat}{d:Option Tmp}{ty:TypeId}{ps:String}{aft:Array Edge}{gd:Option (Nat×Bool)}{K:List Nat→List TWr→Option γ}
theorem SS H v:av H (NA v)=av H v:=by cases v<;>rfl
theorem yX{H}{k}(h:lI (nth .dead H k)=true):bS (obj? (aA H) k)=true:=by
 rw[jI];unfold lI at h;split at h
 ·rename_i e;rw[e];rfl
 ·cases h
theorem adg{v}{K}(h:afe H v K=some b):∃e xs tg,av H v=.slice (xs.map e.enc) tg∧K e xs=some b:=by
 unfold afe at h;split at h
 ·exact⟨_,_,_,rfl,h⟩
 ·split at h
  ·rename_i hl;exact⟨_,_,_,by simp only[av,hl];rfl,h⟩
  ·rename_i hl;exact⟨_,_,_,by simp only[av,hl];rfl,h⟩
  ·cases h
 ·cases h
abbrev op'(d:Option Tmp)(op:Op)(ty:TypeId)(ps:String)(aft:Array Edge)(gd:Option (Nat×Bool)):Oper:=⟨d,op,ty,ps,aft,gd⟩
theorem aB6{x}(h:dA (TI.of P) θ up k d t H (.move x) K=some b):qC P H t k (op' d (.move x) ty ps aft gd) K b:=
 lC (v:=eF t x) (by simp only[aB,bM]) h
theorem axC{x}(h:dA (TI.of P) θ up k d t H (.assign x) K=some b):qC P H t k (op' d (.assign x) ty ps aft gd) K b:=
 lC (v:=eF t x) (by simp only[aB,bM]) h
theorem aBi{c x y}(h:dA (TI.of P) θ up k d t H (.pick c x y) K=some b):qC P H t k (op' d (.pick c x y) ty ps aft gd) K b:=by
 simp only[dA] at h;split at h
 ·rename_i q hq;rcases aY h with⟨e,h⟩ | ⟨e,h⟩
  ·exact lC (v:=eF t x) (by simp only[aB,bM,hq,av,ji,e,if_true]) h
  ·exact lC (v:=eF t y) (by simp only[aB,bM,hq,av,ji,e,qBO,if_false]) h
 ·cases h
theorem aqL{x}(h:dA (TI.of P) θ up k d t H (.nilCheck x) K=some b):qC P H t k (op' d (.nilCheck x) ty ps aft gd) K b:=by
 simp only[dA] at h;split at h
 ·rename_i e l hx;obtain⟨p,h1,h2⟩:=ob h;have hl:l=p.1::p.2:=by cases l with
   | nil=>cases h1
   | cons y r=>cases h1;rfl
  refine lC (v:=.eptr [e.seg p.1,.lf (.f e) p.2]) ?_ h2;have e1:aU H [e.seg p.1,.lf (.f e) p.2]=e.enc p.1++[.flist (List.map e.enc p.2)]:=by
   have:=ahx H e p.1;rw[show[e.seg p.1,TV.lf (.f e) p.2]=[e.seg p.1]++[TV.lf (.f e) p.2] from rfl,Fj,this];rfl
  simp only[aB,bM,hx,av,ji,e1,hl,qAu]
 ·rename_i l o hx;exact lC (v:=.ptr l o) (by simp only[aB,bM,hx,av]) h
 ·rename_i cs hx;exact lC (v:=.eptr cs) (by simp only[aB,bM,hx,av]) h
 ·rename_i f cs hx;exact lC (v:=.func f cs) (by simp only[aB,bM,hx,av]) h
 ·cases h
theorem ayA{op}{tt t2}{x y}(hk:Kup t up)(h:dA (TI.of P) θ up k d t H (.binOp op tt x y t2) K=some b):qC P H t k (op' d (.binOp op tt x y t2) ty ps aft gd) K b:=by
 simp only[dA] at h;obtain⟨v,r,h1,h2,h3,h4⟩:=aB4 (P:=P) (H:=H) h (fun hp kk a ha=>by
  split at hp
  ·rename_i i;exact hk i kk a hp ha
  ·cases hp)
 refine aCU (v:=v) (a:=r) (by simp only[aB,bM];exact h1) (fun hv=>h2 ?_) ?_ h3
 ·rw[←bM];exact hv x (by simp[Op.operands])
 ·intro d' i j tt' g e1 e2;obtain⟨rfl,rfl,rfl,rfl,rfl⟩:=e1;subst e2;refine⟨v,rfl,fun k a hx=>?_⟩;obtain⟨c,g1,g2⟩:=h4 rfl k a hx;exact⟨c,g1,fun b hb=>by rw[g2] at hb;cases hb;rfl⟩
theorem aBR{op}{tt}{x}(h:dA (TI.of P) θ up k d t H (.unOp op tt x) K=some b):qC P H t k (op' d (.unOp op tt x) ty ps aft gd) K b:=by
 simp only[dA] at h;split at h
 ·rename_i q hx;exact lC (v:=.lf .b (!q)) (by simp only[aB,bM,hx,av,ji]) h
 ·rename_i k' n hx;exact lC (v:=.lf (.n k') _) (by simp only[aB,bM,hx,av,ji]) h
 ·cases h
theorem anE{s f:Nat}{x}(h:dA (TI.of P) θ up k d t H (.fieldAddr s x f) K=some b):qC P H t k (op' d (.fieldAddr s x f) ty ps aft gd) K b:=by
 simp only[dA] at h;rw[Qz] at h;split at h
 ·rename_i fo tt hf;split at h
  ·rename_i l o hx;exact lC (v:=.ptr l (o+fo)) (by simp only[aB,bM,hx,hf,av]) h
  ·rename_i cs hx;obtain⟨a,r,h1,h2,h3⟩:=xZ (H:=H) _ _ _ _ h;exact lC (v:=.eptr r) (by simp only[aB,bM,hx,hf,av,h1,←h2,qDb]) h3
  ·rename_i l i z o hx;exact lC (v:=.ap l i z (o+fo)) (by simp only[aB,bM,hx,hf,av,qBU]) h
  ·cases h
 ·cases h
theorem ax0{s f:Nat}{x}(h:dA (TI.of P) θ up k d t H (.field s x f) K=some b):qC P H t k (op' d (.field s x f) ty ps aft gd) K b:=by
 simp only[dA] at h;rw[Qz] at h;have key:∀(fo:Nat) (tt:TypeId) (cs:List TV),zi P s f=some (fo,tt)→av H (eF t x)=.agg (aU H cs)→(ldK (TI.of P) tt fo cs fun v=>K [] (eH d (NA v)))=some b→qC P H t k (op' d (.field s x f) ty ps aft gd) K b:=fun fo tt cs hf hx h=>by
  obtain⟨v,h1,h2⟩:=Y5 (H:=H) h;exact lC (v:=NA v) (by simp only[aB,bM,hx,hf,h1,SS]) h2
 split at h
 ·rename_i fo tt hf;split at h
  ·rename_i cs hx;exact key fo tt cs hf (by rw[hx];rfl) h
  ·rename_i e y hx;exact key fo tt _ hf (by rw[hx];simp only[av,ji,aU,zm,qAr]) h
  ·cases h
 ·cases h
theorem Ns{e}{sz}(h:YD e sz=true):e.sz=sz:=qAj h
theorem aEU{tt}{sz}(h:(TI.of P tt).ix=.sl (some sz)):∃e,P.underlying tt=some (.slice e)∧sizeT P e=some sz:=by
 have h:Ny P tt=.sl (some sz):=h;unfold Ny at h
 grind
theorem axM{n}{K}{b:γ}:∀m q,atK n m q K=some b→∃r,q≤r∧r<q+m∧n=r∧K r=some b
 | 0,_,h=>by cases h
 | m+1,q,h=>by
  rcases aY h with⟨hc,h⟩ | ⟨_,h⟩
  ·grind
  ·obtain⟨r,h1,h2,h3⟩:=axM m (q+1) h
   grind
theorem aBL{len}{x}{c}(h:Dm len x=some c):0≤x∧x≤len∧c=x.toNat:=by
 unfold Dm at h;split at h
 ·grind
 ·cases h
theorem apC{tt}{x i}(h:dA (TI.of P) θ up k d t H (.indexAddr tt x i) K=some b):qC P H t k (op' d (.indexAddr tt x i) ty ps aft gd) K b:=by
 simp only[dA] at h;split at h
 ·rename_i sz hix;obtain⟨kk,n,e1,h1,_⟩:=zL (H:=H) h;split at h1
  ·rename_i l z hx;split at h1
   ·rename_i e xs hl;rcases aY h1 with⟨hz,h2⟩ | ⟨_,h2⟩
    ·have hz:z=sz:=qAj hz;obtain⟨y,h3,h4⟩:=ob h2;obtain⟨g1,g2,g3⟩:=K8 h3;have hs:(TI.of P tt).ix=.sl (some sz):=hix;obtain⟨ee,he,hsz⟩:=aEU hs;refine lC (v:=.ap l n z 0) ?_ h4;simp only[aB,bM,hx,av,dO]
     grind
    ·cases h2
   ·cases h1
  ·obtain⟨e,xs,tg,e2,h2⟩:=adg h1;rcases aY h2 with⟨hz,h2⟩ | ⟨_,h2⟩
   ·have hz:=Ns hz;obtain⟨y,h3,h4⟩:=ob h2;obtain⟨g1,g2,g3⟩:=K8 h3;obtain⟨v,h5,h6⟩:=ZV (P:=P) (t:=tt) (x:=x) (i:=i) (ρ:=bA (aR H t)) (K:=fun v=>v=.eptr (e.enc y)) (by
     simp only[bM];rw[hix,e1,e2];exact⟨e.enc y,by rw[qAJ,g3];rfl,g1,by rw[Jt];exact hz,rfl⟩)
    exact lC (v:=.eptr [e.seg y]) (by rw[h5,h6];simp only[av,ahx]) h4
   ·cases h2
 ·rename_i len sz hix;split at h
  ·rename_i l o hx;obtain⟨kk,n,e1,h1,_⟩:=zL (H:=H) h;obtain⟨q,q1,q2,q3,h2⟩:=axM _ _ h1;obtain⟨v,h5,h6⟩:=ZV (P:=P) (t:=tt) (x:=x) (i:=i) (ρ:=bA (aR H t)) (K:=fun v=>v=.ptr l (o+q*sz)) (by
    simp only[bM];rw[hix,e1,hx];exact⟨⟨by omega,by omega⟩,by rw[q3];rfl⟩)
   exact lC (v:=.ptr l (o+q*sz)) (by rw[h5,h6];rfl) h2
  ·cases h
 ·cases h
theorem azU{tt}{x i}(h:dA (TI.of P) θ up k d t H (.index tt x i) K=some b):qC P H t k (op' d (.index tt x i) ty ps aft gd) K b:=by
 simp only[dA] at h;split at h
 ·rename_i s hx;rcases aY h with⟨hs,h⟩ | ⟨_,h⟩
  ·have hs:aB.isStrT P tt=true:=hs;obtain⟨kk,n,e1,h1,_⟩:=zL (H:=H) h;obtain⟨y,h2,h3⟩:=ob h1;unfold mZ at h2;split at h2
   ·rename_i hc;cases h2;exact lC (v:=.lf (.n .u8) _) (by simp only[aB,bM,hx,e1,av,ji];rw[if_pos ⟨hs,hc⟩]) h3
   ·cases h2
  ·cases h
 ·cases h
theorem auA{x}{i}(h:dA (TI.of P) θ up k d t H (.extract x i) K=some b):qC P H t k (op' d (.extract x i) ty ps aft gd) K b:=by
 simp only[dA] at h;split at h
 ·rename_i vs hx;rcases aY h with⟨hi,h⟩ | ⟨_,h⟩
  ·have hi:i<vs.length:=qAe hi;refine lC (v:=NA (nth .unk vs i)) ?_ h;simp only[aB,bM,hx,av];simp only[sZ,qAh,hi,if_true,SS,iD,List.getD,qAJ,qAc hi,qAy,qAv]
  ·cases h
 ·cases h
theorem Ky{v}{dd}{K}(h:Oa v dd K=some b):∃n,Bd (v.map (av H)) n dd∧K n=some b:=by
 unfold Oa at h;split at h
 ·exact⟨_,.none _,h⟩
 ·obtain⟨kk,n,e1,h1,_⟩:=zL (H:=H) h;exact⟨n,by simp only[qAy,e1];exact .int _ _ _,h1⟩
theorem aot H t (x:Option Operand):x.map (bA (aR H t))=(x.map (eF t)).map (av H):=by cases x<;>simp[bM]
theorem azs{tt}{x}{lo hi}(h:dA (TI.of P) θ up k d t H (.slice tt x lo hi none) K=some b):qC P H t k (op' d (.slice tt x lo hi none) ty ps aft gd) K b:=by
 simp only[dA] at h;split at h
 ·rename_i s hx;rcases aY h with⟨hs,h⟩ | ⟨_,h⟩
  ·obtain⟨lo',hl,h⟩:=Ky (H:=H) h;obtain⟨hi',hh,h⟩:=Ky (H:=H) h;obtain⟨y,h1,h2⟩:=ob h;obtain⟨r,⟨l0,h0,q1,q2,q3⟩,q4⟩:=aE0 (B:=fun r=>r=y) h1 hl hh rfl;obtain⟨v,h5,h6⟩:=aaq (P:=P) (t:=tt) (x:=x) (lo:=lo) (hi:=hi) (ρ:=bA (aR H t)) (K:=fun v=>v=.str y) (by
    rw[bM,hx,aot,aot];rw[show(TI.of P tt).isStr=true from hs];exact⟨l0,h0,q1,q2,by rw[←q3,q4]⟩)
   exact lC (v:=.lf .s y) (by rw[h5,h6];rfl) h2
  ·cases h
 ·rename_i l z hx;split at h
  ·rename_i e xs sz hl hsz;obtain⟨hi',hh,h⟩:=Ky (H:=H) h;obtain⟨c,h1,h2⟩:=ob h;obtain⟨g1,g2,g3⟩:=aBL h1;have hs:aB.sliceT P tt=some sz:=hsz;refine lC (v:=.psl l z (some c)) ?_ h2;have hb:dL (hi.map (bA (aR H t))) xs.length xs.length=some c:=by
    rw[aot];generalize Option.map (av H) (Option.map (eF t) hi)=q at hh;cases hh with
    | none=>simp[dL];omega
    | int k n=>simp[dL];omega
   simp only[aB,bM,hx,av,hl,dO,hs,hb]
  ·cases h
 ·split at h
  ·rename_i sz hsz;obtain⟨e,xs,tg,e2,h2⟩:=adg h
   ·rcases aY h2 with⟨hz,h⟩ | ⟨_,h⟩
    ·have hz:=Ns hz;obtain⟨lo',hl,h⟩:=Ky (H:=H) h;obtain⟨hi',hh,h⟩:=Ky (H:=H) h;obtain⟨y,h1,h2⟩:=ob h;obtain⟨r,⟨l0,h0,q1,q2,q2',q3⟩,q4⟩:=aEq (f:=e.enc) (sz:=e.sz) (B:=fun r=>r=y.map e.enc) h1 hl hh (OA e) rfl;obtain⟨v,h5,h6⟩:=aaq (P:=P) (t:=tt) (x:=x) (lo:=lo) (hi:=hi) (ρ:=bA (aR H t)) (K:=fun v=>v=.slice (y.map e.enc) .shared) (by
      rw[bM,e2,aot,aot];rw[hsz];exact⟨l0,h0,q1,q2,by rw[←hz];exact q2',by rw[←q3,q4]⟩)
     exact lC (v:=.lf (.l e) y) (by rw[h5,h6];rfl) h2
    ·cases h
  ·cases h
end
end
section
open Go
section
variable {P:Program}{γ:Type}{b:γ}{H:List TObj}{t:List TV}{θ:Nat→Option ET}{up:List Nat}{k:Nat}{d:Option Tmp}{ty:TypeId}{ps:String}{aft:Array Edge}{gd:Option (Nat×Bool)}{K:List Nat→List TWr→Option γ}
theorem aiv{a}(h:okA a=true):av H (Vw a)=a∧one (Vw a):=by
 unfold okA at h;split at h<;>first | exact⟨rfl,fun _=>rfl⟩ | cases h
theorem OZ:∀{z:List AV},YH z=true→aU H (z.map Vw)=z
 | [],_=>rfl
 | a::z,h=>by
  simp only[YH,qAa] at h;simp only[qAu,aU,(aiv (H:=H) h.1).2 _,(aiv (H:=H) h.1).1,OZ h.2,qAM,qAt]
theorem asf{z}(h:okZ z=true):av H (ZQ z)=z:=by
 have key:okA z=true→ZQ z=Vw z→av H (ZQ z)=z:=fun h e=>by
  rw[e];exact(aiv h).1
 cases z with
 | agg cs=>simp only[ZQ,av,OZ (show YH cs=true from h)]
 | _=>exact key h rfl
theorem amy{place}:∀l cs K,agR H place l cs K=some b→∃cs',jV place (aU H cs) (l.map fun p=>(p.1,av H p.2))=some (aU H cs')∧K cs'=some b:=by
 intro l
 induction l with
 | nil=>intro cs K h;exact⟨cs,rfl,h⟩
 | cons p l ih=>
  intro cs K h;simp only[agR] at h;split at h
  ·rename_i off sz hp;split at h
   ·rename_i new hs;rcases aY h with⟨hw,h⟩ | ⟨_,h⟩
    ·have hw:(aU H new).length=sz:=by rw[kF];exact qAj hw
     obtain⟨a,r,h1,h2,h3⟩:=xZ (H:=H) _ _ _ _ h;obtain⟨c,r',h4,h5,h6⟩:=xZ (H:=H) _ _ _ _ h3;obtain⟨cs',h7,h8⟩:=ih _ _ h6;refine⟨cs',?_,h8⟩;have e1:(aU H cs).take off=aU H a:=by rw[h1,←h2,qDI]
     have e2:(aU H cs).drop (off+sz)=aU H r':=by
      grind
     simp only[qAu,jV,hp,FK hs];rw[if_pos ⟨hw,by rw[h1,h4];simp;omega⟩,e1,e2];rw[Fj,Fj,←qAo] at h7;exact h7
    ·cases h
   ·cases h
  ·cases h
theorem akn(l:List (Nat×Operand)):(l.map fun p=>(p.1,bA (aR H t) p.2))=(l.map fun p=>(p.1,eF t p.2)).map fun p=>(p.1,av H p.2):=by
 rw[qBh];exact qBo fun p _=>by simp only[Function.comp,bM]
theorem azC{tt}{parts}(h:dA (TI.of P) θ up k d t H (.build tt parts) K=some b):qC P H t k (op' d (.build tt parts) ty ps aft gd) K b:=by
 rcases aY h with⟨hs,h⟩ | ⟨_,h⟩
 ·have hs:xR P tt=true:=hs;split at h
  ·rename_i z hz;have hz:jW P tt=some z:=hz;rcases aY h with⟨ho,h⟩ | ⟨_,h⟩
   ·obtain⟨cs',h1,h2⟩:=amy _ _ _ h;rw[OZ ho,←akn,funext (ajm P tt)] at h1;exact lC (v:=Y4 cs') (by simp only[aB,hs,if_true,hz,h1,qAy,aib]) h2
   ·cases h
  ·cases h
 ·rename_i hs;have hs:xR P tt=false:=hs;split at h
  ·rename_i len sz z hix hz;have hz:jW P tt=some z:=hz;have hix:Ny P tt=.arr len (some sz):=hix;have ha:ad1 P tt=some sz:=by
    unfold Ny at hix;unfold ad1
    grind
   rcases aY h with⟨ho,h⟩ | ⟨_,h⟩
   ·obtain⟨cs',h1,h2⟩:=amy _ _ _ h;rw[OZ ho,←akn] at h1;exact lC (v:=Y4 cs') (by simp only[aB,hs,qBO,if_false,ha,hz,h1,qAy,aib]) h2
   ·cases h
  ·cases h
theorem ari{f:Nat}{first cap}(h:dA (TI.of P) θ up k d t H (.makeFunc (.func f) first cap) K=some b):qC P H t k (op' d (.makeFunc (.func f) first cap) ty ps aft gd) K b:=by
 rcases aY h with⟨hs,h⟩ | ⟨_,h⟩
 ·have hs:=qAj hs;refine lC (v:=.func f (cap.toList.map fun x=>NA (eF t x))) ?_ h;simp only[aB,hs,if_true,av,sZ,qBh,Option.some.injEq,AV.func.injEq,true_and];exact qBo fun x _=>by simp only[Function.comp,SS];rw[←sZ,bM]
 ·cases h
theorem aA1{tt}{x}(h:dA (TI.of P) θ up k d t H (.load tt x) K=some b):qC P H t k (op' d (.load tt x) ty ps aft gd) K b:=by
 simp only[dA] at h;split at h
 ·rename_i cs hx;obtain⟨v,h1,h2⟩:=Y5 (H:=H) h;exact lC (v:=NA v) (by simp only[aB,bM,hx,av,SS];simpa using h1) h2
 ·rename_i l off hx;split at h
  ·rename_i cs hl;obtain⟨v,h1,h2⟩:=Y5 (H:=H) h;refine Gf (rd:=[l]) (ws:=eH d (NA v)) ?_ h2;simp only[aJ,aB,bM,hx,av,jI,hl,fC,h1,qAy,jy,SS]
  ·cases h
 ·rename_i l i z off hx;split at h
  ·rename_i e xs hl;rcases aY h with⟨hc,hh⟩ | ⟨_,h⟩
   ·clear h;simp only[qAa] at hc;obtain⟨c1,c2,c3⟩:=hc;have c1:z=e.sz:=qAj c1;have c2:off=0:=qAj c2;have c3:1≤z:=qAe c3;subst c1;obtain⟨y,h1,hh⟩:=ob hh;obtain⟨g1,g2,g3⟩:=K8 h1;obtain⟨v,h2,h3⟩:=Y5 (H:=H) hh;rw[ahx,qAX] at h2;refine Gf (rd:=[l]) (ws:=eH d (NA v)) ?_ h3;have hi:(i.toNat*e.sz+0)/e.sz=i.toNat:=by rw[qAP,qDd _ (by omega)]
    have hget:(xs.map e.enc).getD i.toNat []=e.enc y:=by simp[g3]
    simp only[aJ,aB,bM,hx,av,jI,fC,jy,SS]
    grind
   ·cases h
  ·cases h
 ·cases h
theorem aun{s tt}{x}(h:dA (TI.of P) θ up k d t H (.convert s tt x) K=some b):qC P H t k (op' d (.convert s tt x) ty ps aft gd) K b:=by
 simp only[dA] at h;have key:∀(kk:IntKind) (n:Int),av H (eF t x)=.int kk n→(bif (TI.of P s).int.isSome then(match(TI.of P tt).int with | some k=>K [] (eH d (.lf (.n k) (k.wrap n))) | none=>none) else none)=some b→qC P H t k (op' d (.convert s tt x) ty ps aft gd) K b:=fun kk n hx h=>by
  rcases aY h with⟨hs,h⟩ | ⟨_,h⟩
  ·split at h
   ·rename_i k2 hk2;have h2:=aiI hk2;obtain⟨k1,hk1⟩:=qCy.1 hs;have h1:=aiI hk1;refine lC (v:=.lf (.n k2) (k2.wrap n)) ?_ h;simp only[aB,bM,hx,aB.convT,h1,h2,av,ji]
   ·cases h
  ·cases h
 split at h
 ·rename_i kk n hx;exact key _ _ (by rw[hx];rfl) h
 ·rename_i n hx;exact key .i64 n (by rw[hx];rfl) h
 ·cases h
theorem aei:∀{cs:List TV},ae9 H cs=true→(aU H cs).all isScalar=true
 | [],_=>rfl
 | v::cs,h=>by
  simp only[ae9,qAa] at h;simp only[aU,List.all_append,aei h.2,qBM];have h1:=h.1;cases v with
  | lf tt x=>cases tt<;>first | rfl | (cases h1;done) | (rename_i e;have:=OA e x;simp only[bU,qAa] at this;exact this.2)
  | own l=>
   simp only[scB] at h1;split at h1
   ·rename_i hl;simp only[av,hl];rfl
   ·rename_i hl;simp only[av,hl];rfl
   ·cases h1
  | psl l z c=>
   cases c with
   | some n=>rfl
   | none=>
    simp only[scB] at h1;split at h1
    ·rename_i hl;simp only[av,hl];rfl
    ·rename_i hl;simp only[av,hl];rfl
    ·cases h1
  | _=>first | rfl | (cases h1;done)
theorem akC{cs}{off}{vs}{K}(h:tX cs off vs K=some b):∃cs',tX cs off vs some=some cs'∧K cs'=some b:=by
 have key:∀(f:Nat) (cs:List TV) (n:Nat) (K:List TV→List TV→Option γ),splitK f cs n K=some b→∃a r,(∀{δ:Type} (K':List TV→List TV→Option δ),splitK f cs n K'=K' a r)∧K a r=some b:=by
  intro f
  induction f with
  | zero=>intro cs n K h;cases h
  | succ f ih=>
   intro cs n K h;unfold splitK at h;cases n with
   | zero=>exact⟨[],cs,fun K'=>by unfold splitK;rfl,h⟩
   | succ m=>
    cases cs with
    | nil=>cases h
    | cons c r=>
     rcases aY h with⟨hw,h1⟩ | ⟨hw,h1⟩
     ·obtain⟨a,r',g1,g2⟩:=ih _ _ _ h1;exact⟨c::a,r',fun K'=>by unfold splitK;simp only[hw];exact g1 _,g2⟩
     ·split at h1
      ·rename_i e x;obtain⟨a,r',g1,g2⟩:=ih _ _ _ h1;exact⟨a,r',fun K'=>by unfold splitK;simp only[hw];exact g1 _,g2⟩
      ·cases h1
 obtain⟨a,r,g1,g2⟩:=key _ _ _ _ h;obtain⟨c,r',g3,g4⟩:=key _ _ _ _ g2;exact⟨_,by unfold tX;rw[g1,g3],g4⟩
theorem asD{cs cs' vs}{off} H (h:tX cs off vs some=some cs'):aU H cs'=(aU H cs).take off++aU H vs++(aU H cs).drop (off+(aU H vs).length)∧off+(aU H vs).length≤(aU H cs).length:=by
 unfold tX at h;obtain⟨a,r,h1,h2,h3⟩:=xZ (H:=H) _ _ _ _ h;obtain⟨c,r',h4,h5,h6⟩:=xZ (H:=H) _ _ _ _ h3;cases h6;rw[←kF H vs] at h5;have e1:(aU H cs).take off=aU H a:=by rw[h1,←h2,qDI]
 have e2:(aU H cs).drop (off+(aU H vs).length)=aU H r':=by
  rw[h1,h4,←qAo,qDz (by simp only[qAf];omega)]
 refine⟨by rw[Fj,Fj,e1,e2,qAo],?_⟩;rw[h1,h4];simp only[qAf];omega
theorem apx{xs ys}(h:Cvs false xs ys):xs=ys:=by
 induction h with
 | nil=>rfl
 | cons h _ ih=>rw[ih];cases h;rfl
theorem azq{tt}{x y}(h:dA (TI.of P) θ up k d t H (.store tt x y) K=some b):qC P H t k (op' d (.store tt x y) ty ps aft gd) K b:=by
 simp only[dA] at h;split at h
 ·rename_i l off hx;split at h
  ·rename_i new sz hs hz;have hz:sizeT P tt=some sz:=hz;split at h
   ·rename_i cs hl;rcases aY h with⟨hc,h⟩ | ⟨_,h⟩
    ·simp only[qAa] at hc;obtain⟨⟨c1,c2⟩,c3⟩:=hc;have c1:(aU H new).length=sz:=by rw[kF];exact qAj c1
     have c2:off+sz≤(aU H cs).length:=by rw[kF];exact qAe c2
     refine Gf ?_ h;simp only[aJ,aB,bM,hx,av,FK hs,jI,hl,fC];rw[if_pos ⟨by rw[c1];exact hz,by rw[c1];exact c2,aei c3⟩];simp only[BD,G5,hl,fC,jy];rfl
    ·cases h
   ·cases h
  ·cases h
 ·rename_i l i z off hx;split at h
  ·rename_i new sz hs hz;have hz:sizeT P tt=some sz:=hz;split at h
   ·rename_i e xs hl;rcases aY h with⟨hc,hh⟩ | ⟨_,h⟩
    ·clear h;simp only[qAa] at hc;obtain⟨⟨c1,c2,c4,c5⟩,c3⟩:=hc;have c1:(aU H new).length=sz:=by rw[kF];exact qAj c1
     have c2:z=e.sz:=qAj c2;subst c2;have c4:1≤sz:=qAe c4;have c5:off+sz≤e.sz:=qAe c5;obtain⟨x,h1,h⟩:=ob hh;obtain⟨g1,g2,g3⟩:=K8 h1;obtain⟨cs,h2,h⟩:=akC h;obtain⟨u,r,ys,h3,h4,h5⟩:=TM _ _ _ _ h;split at h3
     ·obtain⟨y',rfl,h6⟩:=jG h3;have e1:aU H cs=e.enc y':=by
       rw[h4];simp only[aU,qAr];exact(apx h5).symm
      have e2:=(asD H h2).1;rw[V5] at e2;have hi:(i.toNat*e.sz+off)/e.sz=i.toNat:=by
       rw[qBD,qDy (by omega),qDu (by omega),qAP]
      have hm:(i.toNat*e.sz+off)%e.sz=off:=by
       rw[qBD,qCU,qCe (by omega)]
      have hlen:i.toNat<(xs.map e.enc).length:=by rw[qAh];omega
      have hget:(xs.map e.enc).getD i.toNat []=e.enc x:=by simp[List.getD,g3]
      refine Gf ?_ h6;have hr:(upd xs i y').map e.enc=(xs.map e.enc).set i.toNat ((e.enc x).take off++aU H new++(e.enc x).drop (off+(aU H new).length)):=by
       rw[←e2,e1,upd,qCW]
      simp only[aJ,aB,bM,hx,av,FK hs,jI,hl,fC,hi,hm,BD,G5,ET.eq_self,jy,hr,hget];by_cases hw:sizeT P tt=some (aU H new).length∧(aU H new).length=e.sz∧i.toNat*e.sz+off=i.toNat*e.sz∧i.toNat<(xs.map e.enc).length∧(aU H new).all isScalar
      ·rw[if_pos hw];have ho:off=0:=by omega
       subst ho;have hd:(e.enc x).drop (0+(aU H new).length)=[]:=qDE (by rw[Jt];omega);rw[hd,qAT,qAt,qAr];rfl
      ·rw[if_neg hw,if_pos ⟨by rw[c1];exact hz,by omega,hlen,by omega,aei c3⟩];rfl
     ·cases h3
    ·cases h
   ·cases h
  ·cases h
 ·cases h
theorem ay5{tt}(h:dA (TI.of P) θ up k d t H (.alloc tt) K=some b):qC P H t k (op' d (.alloc tt) ty ps aft gd) K b:=by
 simp only[dA] at h;split at h
 ·rename_i z hz;have hz:jW P tt=some z:=hz;rcases aY h with⟨hc,h⟩ | ⟨_,h⟩
  ·simp at hc;refine Gf (rd:=[k]) ?_ h;simp only[aJ,aB,yX hc.2,if_true,hz,qAy,BD,G5,fC,OZ hc.1,jy,av]
  ·cases h
 ·cases h
theorem aCs{tt}{x}(h:dA (TI.of P) θ up k d t H (.box tt x) K=some b)(hav:∀cs,DR H (eF t x)=some cs→lI (nth .dead H k)=true→aU (H.set k (.box cs)) cs=aU H cs):qC P H t k (op' d (.box tt x) ty ps aft gd) K b:=by
 simp only[dA] at h;split at h
 ·rename_i cs hx;rcases aY h with⟨hc,h⟩ | ⟨_,h⟩
  ·refine Gf (rd:=[k]) ?_ h;simp only[aJ,aB,yX hc,if_true,bM,FK hx,qAy,BD,G5,fC,jy,av,hav cs hx hc]
  ·cases h
 ·cases h
theorem auN{tt}(h:dA (TI.of P) θ up k d t H (.makeMap tt none) K=some b):qC P H t k (op' d (.makeMap tt none) ty ps aft gd) K b:=by
 simp only[dA] at h;split at h
 ·split at h
  ·rcases aY h with⟨hc,h⟩ | ⟨_,h⟩
   ·refine Gf (rd:=[k]) ?_ h;simp only[aJ,aB,yX hc,if_true,BD,G5,fC,qCV,jy,av]
   ·cases h
  ·cases h
 ·cases h
theorem aCB{args}{ats}(h:dA (TI.of P) θ up k d t H (.call {callee:=.builtin .len,args,argTypes:=ats}) K=some b):qC P H t k (op' d (.call {callee:=.builtin .len,args,argTypes:=ats}) ty ps aft gd) K b:=by
 simp only[dA] at h;split at h
 ·rename_i x tt ha hat;split at h
  ·rename_i s hx;rcases aY h with⟨hs,h⟩ | ⟨_,h⟩
   ·have hs:aB.isStrT P tt=true:=hs;refine lC (v:=.nat s.length) ?_ h;simp only[aB,ha,hat,bM,hx,av,ji,hs,if_true]
   ·cases h
  ·rename_i hx;rcases aY h with⟨hs,h⟩ | ⟨_,h⟩
   ·have hs:(aB.sliceT P tt).isSome=true:=hs;refine lC (v:=.nat 0) ?_ h;simp only[aB,ha,hat,bM,hx,hs];rfl
   ·cases h
  ·rename_i l z hx;split at h
   ·rename_i e xs hl;rcases aY h with⟨hs,h⟩ | ⟨_,h⟩
    ·have hs:(aB.sliceT P tt).isSome=true:=hs;refine lC (v:=.nat xs.length) ?_ h;simp only[aB,ha,hat,bM,hx,av,hl,dO,hs,if_true]
    ·cases h
   ·cases h
  ·rcases aY h with⟨hs,h⟩ | ⟨_,h⟩
   ·have hs:(aB.sliceT P tt).isSome=true:=hs;obtain⟨e,xs,tg,e2,h2⟩:=adg h;refine lC (v:=.nat xs.length) ?_ h2;simp only[aB,ha,hat,bM,e2,hs,if_true,av,qAh]
   ·cases h
 ·cases h
theorem aDZ{args}{ats}(h:dA (TI.of P) θ up k d t H (.call {callee:=.builtin .min,args,argTypes:=ats}) K=some b):qC P H t k (op' d (.call {callee:=.builtin .min,args,argTypes:=ats}) ty ps aft gd) K b:=by
 simp only[dA] at h;split at h
 ·rename_i x y ha;obtain⟨k1,a,e1,h1,_⟩:=zL (H:=H) h;obtain⟨k2,c,e2,h2,_⟩:=zL (H:=H) h1;rcases aY h2 with⟨hk,h3⟩ | ⟨_,h3⟩
  ·have hk:k1=k2:=by
    have:=qAj hk;cases k1<;>cases k2<;>first | rfl | cases this
   subst hk;refine lC (v:=.lf (.n k1) (if c<a then c else a)) ?_ h3;simp only[aB,ha,bM,e1,e2,if_true,av,ji]
  ·cases h3
 ·cases h
end
end
section
open Go
section
variable {P:Program}{γ:Type}{b:γ}{H:List TObj}{t:List TV}{θ:Nat→Option ET}{up:List Nat}{k:Nat}{d:Option Tmp}{ty:TypeId}{ps:String}{aft:Array Edge}{gd:Option (Nat×Bool)}{K:List Nat→List TWr→Option γ}
theorem IL{k}(h:lI (nth .dead H k)=true):k<H.length:=by
 apply qAp;intro hn;rw[iD,List.getD,qAH (qBa hn)] at h;cases h
theorem bL{α}{d}{l:List α}{k}{v}(h:k<l.length):nth d (l.set k v) k=v:=by rw[iD];simp[h]
theorem aS{α}{d}{l}{k m}{v:α}(h:k≠m):nth d (l.set k v) m=nth d l m:=by rw[iD,iD];simp[qCa h]
theorem afP{k z}{e}{r}(h:k<H.length):av (H.set k (.arr e r)) (.psl k z none)=.psl k z r.length:=by simp only[av,bL h,dO]
theorem V8{k}{e}{r}(h:k<H.length):av (H.set k (.own e r)) (.own k)=.slice (r.map e.enc) (.tip k e.sz):=by simp only[av,bL h,eP]
theorem avI{e}:∀l i K,aon H e i (l.map fun p=>(p.1,eF t p.2)) K=some b→
  ∃(xs:List e.D) (css:List (List AV)),K xs=some b∧Tw i l=true∧css.length=l.length∧(∀c∈css,c.length=e.sz)∧(∀j:Nat,j<l.length→∃p,l[j]? =some p∧dM (bA (aR H t) p.2)=css[j]?)∧css.map (fun c=>c.map shr)=xs.map e.enc:=by
 intro l
 induction l with
 | nil=>intro i K h;exact⟨[],[],h,rfl,rfl,fun c hc=>(by cases hc),fun j hj=>(by cases hj),rfl⟩
 | cons p l ih=>
  intro i K h;rcases aY h with⟨hi,h⟩ | ⟨_,h⟩
  ·obtain⟨x,cs,h1,h2,h3⟩:=azX h;obtain⟨xs,css,g1,g2,g3,g4,g5,g6⟩:=ih _ _ h1;refine⟨x::xs,cs::css,g1,by simp only[Tw,hi,g2,qDl],by simp[g3],?_,?_,by simp only[qAu,am2 h3,g6]⟩
   ·intro c hc;rcases qAg.1 hc with rfl | hc
    ·rw[←h3.len,Jt]
    grind
   ·intro j hj;cases j with
    | zero=>exact⟨p,rfl,by rw[bM];exact h2⟩
    | succ j=>
     grind
  ·cases h
theorem alx{tt}{len}{parts}(h:dA (TI.of P) θ up k d t H (.buildSlice tt len parts) K=some b):qC P H t k (op' d (.buildSlice tt len parts) ty ps aft gd) K b:=by
 simp only[dA] at h;split at h
 ·rename_i et sz by_ he;have he:lK P tt=some (et,sz,by_):=he;split at h
  ·rename_i e z hθ hz;have hz:jW P et=some z:=hz;rcases aY h with⟨hc,hh⟩ | ⟨_,h⟩
   ·clear h;simp only[qAa] at hc;obtain⟨⟨c1,c2,c3⟩,c4,c5,c6⟩:=hc;have c1:=qAj c1;have c2:=Ns c2;subst c2;have c4:=qAj c4;have c5:=qAe c5;have c6:=qAe c6;obtain⟨xs,css,g1,g2,g3,g4,g5,g6⟩:=avI _ _ _ hh;have hlen:((List.replicate len z).flatten).length=len*e.sz:=by
     simp_all
    have hf:=acr (ρ:=bA (aR H t)) (sz:=e.sz) parts.toList 0 css ((List.replicate len z).flatten) g2 g3 g4 g5 (by rw[hlen,qAL,c1];exact qAd _);rw[qDv,qAT,qAt,qAL,c1,qDE (by rw[hlen];exact qAd _),qAr] at hf;refine Gf (rd:=[k]) ?_ g1;simp only[aJ,aB,he,hz];rw[if_pos ⟨yX c3,c5,c6,c4⟩,hf];have hx:xs.length=len:=by
     have:=congrArg List.length g6
     grind
    have hch:chunks e.sz len (css.flatten.map shr)=xs.map e.enc:=by
     have:=chunks_flatten (sz:=e.sz) (css:=css.map fun c=>c.map shr) (fun c hc=>by
      obtain⟨c',h1,rfl⟩:=qAA.1 hc;rw[qAh];exact g4 c' h1)
     grind
    simp only[qAy,BD,G5,fC,jy,Zw,V8 (IL c3),hch,hx]
   ·cases h
  ·cases h
 ·cases h
theorem aCQ{l}(h:isZ l=true):l=0:=by unfold isZ at h;split at h;rfl;cases h
theorem amo{tt}{x y}(h:dA (TI.of P) θ up k d t H (.makeSlice tt x y) K=some b):qC P H t k (op' d (.makeSlice tt x y) ty ps aft gd) K b:=by
 simp only[dA] at h;split at h
 ·rename_i et sz by_ he;have he:lK P tt=some (et,sz,by_):=he;split at h
  ·rename_i e z hθ hz;have hz:jW P et=some z:=hz;obtain⟨k1,l,e1,h1,_⟩:=zL (H:=H) h;obtain⟨k2,c,e2,h2,_⟩:=zL (H:=H) h1;rcases aY h2 with⟨hc,hh⟩ | ⟨_,h⟩
   ·simp only[qAa] at hc;obtain⟨c1,c2,c3,c4⟩:=hc;have c1:=aCQ c1;have c2:=Ns c2;have c3:=qAj c3;subst c1;subst c2;obtain⟨_,h3,h4⟩:=ob hh;unfold mkS at h3;split at h3
    ·rename_i hm;refine Gf (rd:=[k]) ?_ h4;simp only[aJ,he,bM,e1,e2,hz];rw[if_pos ⟨yX c4,by omega,hm.1,hm.2.1,hm.2.2,c3⟩];simp only[BD,Zw,jy];rw[afP (IL c4)];rfl
    ·cases h3
   ·cases h
  ·cases h
 ·cases h
theorem av4{args}{ats}(h:dA (TI.of P) θ up k d t H (.call {callee:=.builtin .append,args,argTypes:=ats}) K=some b):qC P H t k (op' d (.call {callee:=.builtin .append,args,argTypes:=ats}) ty ps aft gd) K b:=by
 simp only[dA] at h;split at h
 ·rename_i x y t1 t2 ha hat;split at h
  ·rename_i et sz by_ he;have he:lK P t1=some (et,sz,by_):=he;split at h
   ·rename_i e hθ;rcases aY h with⟨hc,hh⟩ | ⟨_,h⟩
    ·clear h;simp only[qAa] at hc;obtain⟨c2,c7,c3⟩:=hc;have c2:=Ns c2;subst c2;have c7:aJ.isSliceT P t2=true:=c7;obtain⟨ys,h1,_,h2⟩:=aAs (H:=H) (t:=.l e) (fun e h=>by cases h) hh;obtain⟨tg,hy⟩:∃tg,av H (eF t y)=.slice (ys.map e.enc) tg:=by
      simp only[ji] at h2;generalize av H (eF t y)=a at h2;cases h2
      ·grind
      grind
     split at h1
     ·rename_i hx;obtain⟨r,h3,h4⟩:=ob h1;obtain⟨q1,q2,rfl⟩:=Nl h3;simp only[qAK,qAL] at q1 q2;refine Gf (rd:=[k]) ?_ h4;simp only[aJ,aB,ha,hat,he,c7,bM,hx,hy,av];rw[if_pos ⟨yX c3,trivial,by rw[qAh];exact q1,by rw[qAh];exact q2,DZ (OA e) _⟩];simp only[BD,G5,fC,jy,Zw,V8 (IL c3),qAt,qAh]
     ·rename_i l hx;split at h1
      ·rename_i e' xs hl;obtain⟨xs',e1,g1⟩:=jG h1;clear h1;cases e1;obtain⟨r,h3,h4⟩:=ob g1;obtain⟨q1,q2,rfl⟩:=Nl h3;have hlk:l≠k:=fun e=>by subst e;rw[hl] at c3;cases c3
       refine Gf (rd:=[l,k]) ?_ h4;have hx2:av H (TV.own l)=.slice (List.map e.enc xs') (.tip l e.sz):=by simp only[av,hl,eP]
       have hσ:obj? (aA H) l=.tip (xs'.length*e.sz):=by rw[jI,hl];rfl
       simp only[aJ,aB,ha,hat,he,c7,bM,hx,hy,hx2,hσ];rw[if_pos ⟨yX c3,by rw[qAh],trivial,by simp only[qAh];exact q1,by simp only[qAh];exact q2,DZ (OA e) _,DZ (OA e) _⟩];simp only[BD,G5,Zw,hl,fC,jy];rw[V8 (by rw[qAU];exact IL c3)];simp only[qAY,qAf,qAh]
      ·cases h1
     ·rename_i l z hx;split at h1
      ·rename_i e' xs hl;rcases aY h1 with⟨hz,h1⟩ | ⟨_,h1⟩
       ·have hz:z=e.sz:=qAj hz;subst hz;obtain⟨xs',e1,g1⟩:=jG h1;clear h1;cases e1;obtain⟨r,h3,h4⟩:=ob g1;obtain⟨q1,q2,rfl⟩:=Nl h3;refine Gf (rd:=[l,k]) ?_ h4;have hx2:av H (TV.psl l e.sz none)=.psl l e.sz xs'.length:=by simp only[av,hl,dO]
        have hσ:obj? (aA H) l=.arr e.sz (xs'.map e.enc):=by rw[jI,hl];rfl
        simp only[aJ,aB,ha,hat,he,c7,bM,hx,hy,hx2,hσ];rw[if_pos ⟨yX c3,trivial,trivial,by simp only[qAh];exact qAd _,by simp only[qAh];exact q1,by simp only[qAh];exact q2,DZ (OA e) _,DZ (OA e) _⟩];simp only[BD,G5,Zw,hl,fC,jy];rw[afP (by rw[qAU];exact IL c3)];simp only[qAY,qAf,qAh,qCk (qBj (show(List.map e.enc xs').length=xs'.length from qAh e.enc))]
       ·cases h1
      ·cases h1
     ·cases h1
    ·cases h
   ·cases h
  ·cases h
 ·cases h
theorem axq{tt}{m key}{ok}(h:dA (TI.of P) θ up k d t H (.lookup tt m key ok) K=some b):qC P H t k (op' d (.lookup tt m key ok) ty ps aft gd) K b:=by
 simp only[dA] at h;split at h
 ·rename_i et l s hm hmm hkk;have hm:rY P tt=some et:=hm;split at h
  ·rename_i e xs z hl hz;have hz:Lb P et=some z:=hz;rcases aY h with⟨ho,h⟩ | ⟨_,h⟩
   ·have key:∀v,av H v=BN ((dw xs s).map e.one) ok z→K [l] (eH d v)=some b→qC P H t k (op' d (.lookup tt m key ok) ty ps aft gd) K b:=fun v hv h=>by
     refine Gf (rd:=[l]) (ws:=eH d v) ?_ h;simp only[aJ,aB,hm,bM,hmm,hkk,av,ji,jI,hl,fC,hz,jy,hv,adr]
    unfold ZK at h;split at h
    ·rename_i y hy;cases ok
     ·exact key (e.seg y) (by rw[hy];exact ap8 H e y) h
     ·exact key (.tup [e.seg y,.lf .b true]) (by rw[hy];simp only[av,aR,ap8,qAy,BN,ji]) h
    ·rename_i hy;cases ok
     ·exact key (ZQ z) (by rw[hy];simp only[qCx,BN,asf (H:=H) ho]) h
     ·exact key (.tup [ZQ z,.lf .b false]) (by rw[hy];simp only[av,aR,asf (H:=H) ho,qCx,BN,ji]) h
   ·cases h
  ·cases h
 ·cases h
theorem aBC{e:ET}{x}{xs}{a}(h1:dM a=some xs)(h2:Cvs true (e.enc x) xs)(h3:e.sc=true→xs=[a]):sD a=e.one x:=by
 have hx:=am2 h2;have hl:xs.length=e.sz:=by rw[←h2.len,Jt]
 have key:e.sc=false→sD a=.agg (e.enc x):=fun hsc=>by
  have h2:2≤e.sz:=by cases e<;>first | (cases hsc;done) | (simp[ET.sz])
  cases a with
  | agg cs=>cases h1;simp only[sD,hx]
  | unk=>cases h1
  | tup cs=>cases h1
  | _=>cases h1;simp at hl;omega
 cases e with
 | i=>have:=h3 rfl;subst this;cases h2 with | cons g _=>cases g;rfl
 | u=>have:=h3 rfl;subst this;cases h2 with | cons g _=>cases g;rfl
 | s=>have:=h3 rfl;subst this;cases h2 with | cons g _=>cases g;rfl
 | b=>have:=h3 rfl;subst this;cases h2 with | cons g _=>cases g;rfl
 | vals=>have:=h3 rfl;subst this;cases h2 with | cons g _=>cases g<;>rfl
 | tms=>have:=h3 rfl;subst this;cases h2 with | cons g _=>cases g<;>rfl
 | _=>exact key rfl
theorem aoV{tt}{m key x}(h:dA (TI.of P) θ up k d t H (.mapUpdate tt m key x) K=some b):qC P H t k (op' d (.mapUpdate tt m key x) ty ps aft gd) K b:=by
 simp only[dA] at h;split at h
 ·rename_i et l s hm hmm hkk;have hm:rY P tt=some et:=hm;split at h
  ·rename_i e xs hl;obtain⟨y,cs,h1,h2,h3,h4⟩:=ajn h;obtain⟨r,h5,h6⟩:=ob h1;unfold xG at h5;split at h5
   ·rename_i hlt;cases h5;refine Gf (rd:=[l]) ?_ h6;have hs:=aBC h2 h3 h4;simp only[aJ,hm,bM,hmm,hkk,av,ji,jI,hl,fC,qAh,hlt,BD,jy,hs,ahE];rfl
   ·cases h5
  ·cases h
 ·cases h
end
end
end Abs
end Go.Proofs.YtneeginmfjageaaGreat
