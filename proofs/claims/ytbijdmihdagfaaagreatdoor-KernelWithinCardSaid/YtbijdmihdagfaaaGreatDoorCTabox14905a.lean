/-
  The records of the types that walks ask for. Conditions: none.
-/
import Derived.Test.YtbijdmihdagfaaaGreatDoorProg
import Derived.KernelRfl
import Derived.Test.YtbijdmihdagfaaaGreatDoorCData2ox88c65e
set_option linter.all false
namespace Go.Proofs.YtbijdmihdagfaaaGreatDoor
namespace Abs
section
open Go Go.Proofs
def ti2:TI:=⟨some 1,some false,false,false,false,false,false,some .i64,.no,[],[],some ([.int .i64 0]),some (.int .i64 0),none,none,none⟩
def ti3:TI:=⟨some 1,some false,false,false,false,false,false,some .i64,.no,[],[],some ([.int .i64 0]),some (.int .i64 0),none,none,none⟩
def ti4:TI:=⟨some 1,some false,false,true,false,false,false,none,.no,[],[],some ([.bool false]),some (.bool false),none,none,none⟩
def ti5:TI:=⟨some 1,some false,false,false,false,false,false,some .u8,.no,[],[],some ([.int .u8 0]),some (.int .u8 0),none,none,none⟩
def ti9:TI:=⟨some 1,some false,false,false,true,false,false,none,.no,[],[],some ([.str []]),some (.str []),none,none,none⟩
def atc:TI:=⟨some 1,some false,false,false,false,false,false,none,.no,[],[],some ([.unk]),some (.unk),none,none,none⟩
def atQ:TI:=⟨some 1,some false,false,false,false,false,false,some .i32,.no,[],[],some ([.int .i32 0]),some (.int .i32 0),none,none,none⟩
def atC:TI:=⟨some 1,some false,false,false,false,false,true,none,.sl (some 2),[],[],some ([.slice [] .nils]),some (.slice [] .nils),some 2,some (61,2,40),none⟩
def atN:TI:=⟨some 1,some false,false,false,false,false,true,none,.sl (some 4),[],[],some ([.slice [] .nils]),some (.slice [] .nils),some 4,some (42,4,64),none⟩
def TIs(n:Nat)(s:Bool)(i:IxT)(f:List (Option (Nat×TypeId)))(p:List (Option (Nat×Nat)))(l:List AV):TI:=⟨some n,some true,false,false,false,s,false,none,i,f,p,some l,some (.agg l),none,none,none⟩
def TIc(a b c d:Bool)(k:Option IntKind)(i:IxT)(z:AV)(x:Option Nat)(y:Option (TypeId×Nat×Nat))(s:Option TypeId):TI:=⟨some 1,some false,a,b,c,false,d,k,i,[],[],some [z],some z,x,y,s⟩
def atZ:=TIs 2 true .no [some (0,22),some (1,23)] [some (0,1),some (1,1)] ([.slice [] .nils,.slice [] .nils])
def atO:TI:=⟨some 1,some false,false,false,false,false,true,none,.sl (some 7),[],[],some ([.slice [] .nils]),some (.slice [] .nils),some 7,some (31,7,104),none⟩
def atI:TI:=⟨some 1,some false,false,false,false,false,true,none,.sl (some 3),[],[],some ([.slice [] .nils]),some (.slice [] .nils),some 3,some (29,3,48),none⟩
def at7:=TIs 3 true .no [some (0,3),some (1,9),some (2,27)] [some (0,1),some (1,1),some (2,1)] ([.int .i64 0,.str [],.slice [] .nils])
def atS:=TIs 7 true .no [some (0,3),some (1,9),some (2,3),some (3,29),some (6,26)] [some (0,1),some (1,1),some (2,1),some (3,3),some (6,1)] ([.int .i64 0,.str [],.int .i64 0,.int .i64 0,.str [],.slice [] .nils,.slice [] .nils])
def atv:=TIs 10 true .no [some (0,25),some (2,26),some (3,31)] [some (0,2),some (2,1),some (3,7)] ([.slice [] .nils,.slice [] .nils,.slice [] .nils,.int .i64 0,.str [],.int .i64 0,.int .i64 0,.str [],.slice [] .nils,.slice [] .nils])
def atq:TI:=⟨some 1,some false,false,false,false,false,false,some .i64,.no,[],[],some ([.int .i64 0]),some (.int .i64 0),none,none,none⟩
def asU:=TIs 4 true .no [some (0,9),some (1,29)] [some (0,1),some (1,3)] ([.str [],.int .i64 0,.str [],.slice [] .nils])
def as2:TI:=⟨some 1,some false,false,false,false,false,true,none,.sl (some 10),[],[],some ([.slice [] .nils]),some (.slice [] .nils),some 10,some (33,10,176),none⟩
def as4:TI:=⟨some 1,some false,false,false,false,false,true,none,.sl (some 1),[],[],some ([.slice [] .nils]),some (.slice [] .nils),some 1,some (3,1,8),none⟩
def asZ:=TIs 6 true .no [some (0,3),some (1,3),some (2,9),some (3,47),some (4,26),some (5,47)] [some (0,1),some (1,1),some (2,1),some (3,1),some (4,1),some (5,1)] ([.int .i64 0,.int .i64 0,.str [],.slice [] .nils,.slice [] .nils,.slice [] .nils])
def at0:TI:=⟨some 1,some false,false,false,false,false,false,none,.no,[],[],some ([.nilFunc]),some (.nilFunc),none,none,none⟩
def ato:TI:=⟨some 1,some false,false,false,false,false,false,none,.no,[],[],some ([.nilFunc]),some (.nilFunc),none,none,none⟩
def atA:TI:=⟨some 1,some false,false,false,false,false,true,none,.sl (some 1),[],[],some ([.slice [] .nils]),some (.slice [] .nils),some 1,some (9,1,16),none⟩
def atm:=TIs 2 true .no [some (0,9),some (1,59)] [some (0,1),some (1,1)] ([.str [],.slice [] .nils])
def at1:=TIs 3 true .no [some (0,3),some (1,3),some (2,3)] [some (0,1),some (1,1),some (2,1)] ([.int .i64 0,.int .i64 0,.int .i64 0])
def as3:=TIs 2 true .no [some (0,59),some (1,59)] [some (0,1),some (1,1)] ([.slice [] .nils,.slice [] .nils])
def arG:=TIs 3 true .no [some (0,3),some (1,9),some (2,3)] [some (0,1),some (1,1),some (2,1)] ([.int .i64 0,.str [],.int .i64 0])
def aq3:=TIs 7 true .no [some (0,9),some (1,100),some (4,3),some (5,3),some (6,36)] [some (0,1),some (1,3),some (4,1),some (5,1),some (6,1)] ([.str [],.int .i64 0,.str [],.int .i64 0,.int .i64 0,.int .i64 0,.int .i64 0])
def ari:TI:=⟨some 1,some false,true,false,false,false,false,none,.no,[],[],some ([.nilp]),some (.nilp),none,none,none⟩
def arp:=TIs 17 true .no [some (0,33),some (10,49),some (16,44)] [some (0,10),some (10,6),some (16,1)] ([.slice [] .nils,.slice [] .nils,.slice [] .nils,.int .i64 0,.str [],.int .i64 0,.int .i64 0,.str [],.slice [] .nils,.slice [] .nils,.int .i64 0,.int .i64 0,.str [],.slice [] .nils,.slice [] .nils,.slice [] .nils,.slice [] .nils])
def aqy:TI:=⟨some 1,some false,false,false,false,false,false,none,.no,[],[],some ([.nilFunc]),some (.nilFunc),none,none,none⟩
def arE:=TIs 28 false (.arr 28 (some 1)) [] [] (List.replicate 28 (.nilFunc))
def aq7:TI:=⟨some 1,some false,false,false,false,false,false,none,.no,[],[],some ([.nilFunc]),some (.nilFunc),none,none,none⟩
def arb:TI:=⟨some 1,some false,false,false,false,false,false,none,.no,[],[],some ([.unk]),some (.unk),none,none,some 4⟩
def arU:TI:=⟨some 1,some false,true,false,false,false,false,none,.no,[],[],some ([.nilp]),some (.nilp),none,none,none⟩
def arL:TI:=⟨some 1,some false,true,false,false,false,false,none,.no,[],[],some ([.nilp]),some (.nilp),none,none,none⟩
def ara:TI:=⟨some 1,some false,false,false,false,false,false,none,.no,[],[],some ([.unk]),some (.unk),none,none,some 29⟩
def aqN:TI:=⟨some 1,some false,false,false,false,false,false,none,.no,[],[],some ([.nilFunc]),some (.nilFunc),none,none,none⟩
def aql:=TIs 57 false (.arr 57 (some 1)) [] [] (List.replicate 57 (.nilFunc))
def arN:=TIs 60 true .no [some (0,130),some (1,122),some (2,133),some (59,47)] [some (0,1),some (1,1),some (2,57),some (59,1)] (([.unk,.unk]++List.replicate 57 .nilFunc++[.slice [] .nils]))
def aqL:TI:=⟨some 1,some false,true,false,false,false,false,none,.no,[],[],some ([.nilp]),some (.nilp),none,none,none⟩
def aqY:TI:=⟨some 1,some false,false,false,false,false,false,none,.no,[],[],some ([.nilFunc]),some (.nilFunc),none,none,none⟩
def arz:=TIs 5 true .no [some (0,9),some (1,29),some (4,161)] [some (0,1),some (1,3),some (4,1)] ([.str [],.int .i64 0,.str [],.slice [] .nils,.nilp])
def aqx:TI:=⟨some 1,some false,false,false,false,false,true,none,.sl (some 16),[],[],some ([.slice [] .nils]),some (.slice [] .nils),some 16,some (196,16,216),none⟩
def aq2:=TIs 16 true .no [some (0,31),some (7,31),some (14,4),some (15,4)] [some (0,7),some (7,7),some (14,1),some (15,1)] ([.int .i64 0,.str [],.int .i64 0,.int .i64 0,.str [],.slice [] .nils,.slice [] .nils,.int .i64 0,.str [],.int .i64 0,.int .i64 0,.str [],.slice [] .nils,.slice [] .nils,.bool false,.bool false])
def asa:=TIs 3 true .no [some (0,26),some (1,47),some (2,3)] [some (0,1),some (1,1),some (2,1)] ([.slice [] .nils,.slice [] .nils,.int .i64 0])
def aqE:TI:=⟨some 1,some false,false,false,false,false,false,none,.no,[],[],some ([.nilFunc]),some (.nilFunc),none,none,none⟩
def arY:TI:=⟨some 1,some false,false,false,false,false,false,none,.no,[],[],some ([.nilFunc]),some (.nilFunc),none,none,none⟩
def aqi:=TIs 8 true .no [some (0,9),some (1,31)] [some (0,1),some (1,7)] ([.str [],.int .i64 0,.str [],.int .i64 0,.int .i64 0,.str [],.slice [] .nils,.slice [] .nils])
def aqS:TI:=⟨some 1,some false,false,false,false,false,true,none,.sl (some 8),[],[],some ([.slice [] .nils]),some (.slice [] .nils),some 8,some (233,8,120),none⟩
def arH:TI:=⟨some 1,some false,false,false,false,false,false,some .u64,.no,[],[],some ([.int .u64 0]),some (.int .u64 0),none,none,none⟩
def aqA:=TIs 256 false (.arr 256 (some 1)) [] [] (List.replicate 256 (.bool false))
def aq1:TI:=⟨some 1,some false,false,false,false,false,false,none,.no,[],[],some ([.unk]),some (.unk),none,none,some 3⟩
def ars:TI:=⟨some 1,some false,false,false,false,false,false,none,.no,[],[],some ([.unk]),some (.unk),none,none,some 31⟩
def aqj:=TIs 17 true .no [some (0,31),some (7,31),some (14,122),some (15,122),some (16,3)] [some (0,7),some (7,7),some (14,1),some (15,1),some (16,1)] ([.int .i64 0,.str [],.int .i64 0,.int .i64 0,.str [],.slice [] .nils,.slice [] .nils,.int .i64 0,.str [],.int .i64 0,.int .i64 0,.str [],.slice [] .nils,.slice [] .nils,.unk,.unk,.int .i64 0])
def arZ:=TIs 22 true .no [some (0,31),some (7,31),some (14,31),some (21,53)] [some (0,7),some (7,7),some (14,7),some (21,1)] ([.int .i64 0,.str [],.int .i64 0,.int .i64 0,.str [],.slice [] .nils,.slice [] .nils,.int .i64 0,.str [],.int .i64 0,.int .i64 0,.str [],.slice [] .nils,.slice [] .nils,.int .i64 0,.str [],.int .i64 0,.int .i64 0,.str [],.slice [] .nils,.slice [] .nils,.nilFunc])
def ark:=TIs 22 false (.arr 22 (some 1)) [] [] (List.replicate 22 (.int .i64 0))
def arn:TI:=⟨some 1,some false,false,false,false,false,false,some .i64,.no,[],[],some ([.int .i64 0]),some (.int .i64 0),none,none,none⟩
def aru:TI:=⟨some 1,some false,false,false,false,false,false,some .u32,.no,[],[],some ([.int .u32 0]),some (.int .u32 0),none,none,none⟩
def aqO:TI:=⟨some 1,some false,false,false,false,false,false,some .u64,.no,[],[],some ([.int .u64 0]),some (.int .u64 0),none,none,none⟩
def arC:TI:=⟨some 1,some false,false,false,false,false,false,none,.no,[],[],some ([.nilFunc]),some (.nilFunc),none,none,none⟩
def ar4:=TIs 21 false (.arr 21 (some 1)) [] [] (List.replicate 21 (.int .i64 0))
def aq5:=TIs 5 false (.arr 5 (some 1)) [] [] ([.int .i64 0,.int .i64 0,.int .i64 0,.int .i64 0,.int .i64 0])
def aqV:TI:=⟨some 1,some false,false,false,false,false,false,some .u64,.no,[],[],some ([.int .u64 0]),some (.int .u64 0),none,none,none⟩
def aqB:=TIs 24 false (.arr 24 (some 1)) [] [] (List.replicate 24 (.int .u8 0))
def aqh:TI:=⟨some 1,some false,false,false,false,false,true,none,.sl (some 1),[],[],some ([.slice [] .nils]),some (.slice [] .nils),some 1,some (5,1,1),none⟩
def ar5:=TIs 20 false (.arr 20 (some 1)) [] [] (List.replicate 20 (.int .u64 0))
def aqs:=TIs 65 false (.arr 65 (some 1)) [] [] (List.replicate 65 (.int .u8 0))
def arR:=TIs 256 false (.arr 256 (some 1)) [] [] (List.replicate 256 (.int .u8 0))
def aqZ:=TIs 2 true .no [some (0,5),some (1,5)] [some (0,1),some (1,1)] ([.int .u8 0,.int .u8 0])
def arf:=TIs 32 false (.arr 16 (some 2)) [] [] (List.replicate 32 (.int .u8 0))
def aqn:=TIs 32 false (.arr 32 (some 1)) [] [] (List.replicate 32 (.int .u8 0))
def arA:=TIs 64 false (.arr 64 (some 1)) [] [] (List.replicate 64 (.int .u8 0))
def tab:Tr:=(.node (.node (.node (.node (.node (.node (.node .nil 2 ti2 .nil) 3 ti3 .nil) 4 ti4 (.node .nil 5 ti5 .nil)) 9 ti9 (.node (.node (.node .nil 20 atc .nil) 21 atQ .nil) 22 atC (.node .nil 23 atN .nil))) 25 atZ (.node (.node (.node (.node .nil 26 atO .nil) 27 atI .nil) 29 at7 (.node .nil 31 atS .nil)) 33 atv (.node (.node .nil 36 atq .nil) 42 asU (.node .nil 44 as2 .nil)))) 47 as4 (.node (.node (.node (.node (.node .nil 49 asZ .nil) 53 at0 .nil) 58 ato (.node .nil 59 atA .nil)) 61 atm (.node (.node .nil 83 at1 .nil) 93 as3 (.node .nil 100 arG .nil))) 103 aq3 (.node (.node (.node (.node .nil 107 ari .nil) 109 arp .nil) 110 aqy (.node .nil 111 arE .nil)) 114 aq7 (.node (.node .nil 122 arb .nil) 123 arU (.node .nil 125 arL .nil))))) 130 ara (.node (.node (.node (.node (.node (.node .nil 132 aqN .nil) 133 aql .nil) 135 arN (.node .nil 161 aqL .nil)) 164 aqY (.node (.node (.node .nil 166 arz .nil) 194 aqx .nil) 196 aq2 (.node .nil 199 asa .nil))) 209 aqE (.node (.node (.node (.node .nil 213 arY .nil) 233 aqi .nil) 234 aqS (.node .nil 247 arH .nil)) 251 aqA (.node (.node .nil 257 aq1 .nil) 262 ars (.node .nil 265 aqj .nil)))) 270 arZ (.node (.node (.node (.node (.node .nil 274 ark .nil) 278 arn .nil) 285 aru (.node .nil 287 aqO .nil)) 294 arC (.node (.node .nil 298 ar4 .nil) 300 aq5 (.node .nil 306 aqV .nil))) 313 aqB (.node (.node (.node (.node .nil 315 aqh .nil) 327 ar5 .nil) 328 aqs (.node .nil 329 arR .nil)) 331 aqZ (.node (.node .nil 332 arf .nil) 333 aqn (.node .nil 334 arA .nil))))))
theorem apR:tab.keys.map (TI.of Tryz.prog)=tab.vals:=by kernel_rfl
noncomputable def τ(t:Nat):TI:=tab.look (TI.of Tryz.prog) t
theorem rG:τ=TI.of Tryz.prog:=aoe apR
theorem Gi:Tryz.prog.follows .mixedOrders=true:=by kernel_rfl
end
section
open Go
def xV(u:U):List AV:=rW (.lf u.t u.x) (gM u.t u.x)
def zM:List U→List AV
 |[]=>[]
 |u::us=>xV u++zM us
theorem aaS(H:List TObj):∀us:List U,aT H (us.map fun u=>.lf u.t u.x)=zM us
 |[]=>rfl
 |u::us=>by simp only[qAF,aT,zM,aaS H us,xV,av]
theorem BU:∀(e:ET) (x:e.D),(e.enc x).length=e.sz
 | .i,_=>rfl| .u,_=>rfl| .s,_=>rfl| .b,_=>rfl| .car,_=>rfl| .dec,_=>rfl
 | .ty,x=>by simp only[ET.enc,iE];rfl
 | .tm,x=>by simp only[ET.enc,jM];rfl
 | .env,_=>rfl
 | .val,x=>by simp only[ET.enc,iW];rfl
 | .bnd,x=>by have:=iW x.v;simp only[ET.enc,this];rfl
 | .vals,_=>rfl| .tms,_=>rfl
theorem aiA:∀(e:ET) (x:e.D),zM (dG e.cs (e.un x))=e.enc x
 | .i,_=>rfl| .u,_=>rfl| .s,_=>rfl| .b,_=>rfl| .car,_=>rfl
 | .dec,x=>by
  have:=iE x.ty;simp only[ET.enc,ET.cs,ET.un,dG,zM,xV,rW,gM,d9,this,qAH,qAz]
 | .ty,x=>by simp only[ET.enc,iE];rfl
 | .tm,x=>by
  have:=iE x.ty;simp only[ET.enc,ET.cs,ET.un,dG,zM,xV,rW,gM,jM,this,qAH,qAz]
 | .env,_=>rfl
 | .val,x=>by simp only[ET.enc,iW];rfl
 | .bnd,x=>by
  have:=iW x.v;simp only[ET.enc,ET.cs,ET.un,dG,zM,xV,rW,gM,this,qAH,qAz]
 | .vals,_=>rfl| .tms,_=>rfl
theorem ar0:∀(e:ET) (y:fU e.cs),e.un (e.mk y)=y
 | .i,_=>rfl| .u,_=>rfl| .s,_=>rfl| .b,_=>rfl| .car,_=>rfl| .dec,_=>rfl| .ty,_=>rfl| .tm,_=>rfl| .env,_=>rfl| .val,_=>rfl| .bnd,_=>rfl| .vals,_=>rfl| .tms,_=>rfl
theorem ao1(e:ET)(y:fU e.cs):zM (dG e.cs y)=e.enc (e.mk y):=by rw[←aiA,ar0]
theorem yI(H:List TObj):∀a b:List TV,aT H (a++b)=aT H a++aT H b
 |[],_=>rfl
 |v::a,b=>by simp only[qAH,aT,yI H a b,qAo]
theorem mY(H:List TObj):∀a:List TV,aQ H a=a.map (av H)
 |[]=>rfl
 |v::a=>by simp only[aQ,qAF,mY H a]
theorem MH(H:List TObj)(e:ET)(x:e.D):aT H (comps e x)=e.enc x:=by
 unfold comps;rw[aaS,aiA]
def one(v:TV):Prop:=∀a,rW v a=[a]
theorem l8(v:TV):one v∨∃e x,v=.lf (.t e) x:=by
 cases v with
 |lf t x=>cases t<;>first|exact .inr ⟨_,_,rfl⟩|exact .inl fun _=>rfl
 |_=>exact .inl fun _=>rfl
theorem aaL(H:List TObj)(v:TV):(rW v (av H v)).length=width v:=by
 rcases l8 v with h|⟨e,x,rfl⟩
 ·rw[h];cases v with
  |lf t x=>cases t<;>first|rfl|(have:=h .unk;simp only[rW]at this;rename_i e;have h2:=BU e x;rw[this]at h2;simp only[width];exact h2)
  |_=>rfl
 ·exact BU e x
theorem iN(H:List TObj):∀vs:List TV,(aT H vs).length=widths vs
 |[]=>rfl
 |v::vs=>by simp only[aT,qAg,aaL,iN H vs,widths]
theorem aX{γ:Type}{b:Bool}{X Y:Option γ}{r:γ}(h:cond b X Y=some r):(b=true∧X=some r)∨(b=false∧Y=some r):=by grind
section
variable {γ:Type}{b:γ}{H:List TObj}
theorem qM:∀(f:Nat) (cs:List TV) (n:Nat) (K:List TV→List TV→Option γ),splitK f cs n K=some b→∃a r,aT H cs=aT H a++aT H r∧(aT H a).length=n∧K a r=some b:=by
 intro f
 induction f with
 |zero=>intro cs n K h;cases h
 |succ f ih=>
  intro cs n K h;unfold splitK at h;cases n with
  |zero=>exact⟨[],cs,rfl,rfl,h⟩
  |succ m=>
   cases cs with
   |nil=>cases h
   |cons c r=>
    rcases aX h with⟨hw,h⟩|⟨_,h⟩
    ·obtain⟨a,r',h1,h2,h3⟩:=ih _ _ _ h;have hw:=qAf hw;refine⟨c::a,r',?_,?_,h3⟩
     ·simp only[aT,h1,qAo]
     ·simp only[aT,qAg,aaL];omega
    ·split at h
     ·rename_i e x;obtain⟨a,r',h1,h2,h3⟩:=ih _ _ _ h;refine⟨a,r',?_,h2,h3⟩;rw[←h1,yI,MH];rfl
     ·cases h
theorem aln:∀(f:Nat) (cs:List TV) (K:TV→Option γ),abY f cs K=some b→∃v r,one v∧aT H cs=av H v::r∧K v=some b:=by
 intro f
 induction f with
 |zero=>intro cs K h;cases h
 |succ f ih=>
  intro cs K h;unfold abY at h;cases cs with
  |nil=>cases h
  |cons c r=>
   simp only at h;split at h
   ·rename_i e x;obtain⟨v,r',h1,h2,h3⟩:=ih _ _ h;refine⟨v,r'++aT H r,h1,?_,h3⟩;rw[MH]at h2;simp only[aT,rW,h2,qAH]
   ·rename_i hne;rcases l8 c with h1|⟨e,x,rfl⟩
    ·exact⟨c,aT H r,h1,by simp only[aT,h1 (av H c),qAH,qAz],h⟩
    grind
theorem Y2(c:List TV):av H (Py c)=.agg (aT H c):=by
 unfold Py;split
 ·rename_i e x;simp only[av,gM,aT,rW,qAs]
 ·rfl
theorem RV{P:Program}{t off:Nat}{cs:List TV}{K:TV→Option γ}(h:Xr (TI.of P) t off cs K=some b):∃v,gq P t ((aT H cs).drop off)=some (av H v)∧K v=some b:=by
 unfold Xr at h;split at h
 ·rename_i hagg;have hagg:bC P t=some true:=hagg;split at h
  ·rename_i n hn;have hn:sizeT P t=some n:=hn;obtain⟨a,r,h1,h2,h3⟩:=qM (H:=H) _ _ _ _ h;obtain⟨c,d,h4,h5,h6⟩:=qM (H:=H) _ _ _ _ h3;refine⟨Py c,?_,h6⟩;have e1:(aT H cs).drop off=aT H c++aT H d:=by rw[h1,←h2,qCu,h4]
   simp only[gq,e1,qAg,h5,Y2]
   grind
  ·cases h
 ·rename_i hagg;have hagg:bC P t=some false:=hagg;obtain⟨a,r,h1,h2,h3⟩:=qM (H:=H) _ _ _ _ h;obtain⟨v,r',_,h4,h5⟩:=aln (H:=H) _ _ _ h3;refine⟨v,?_,h5⟩;have e1:(aT H cs).drop off=aT H r:=by rw[h1,←h2,qCu]
  simp only[gq,hagg,e1,h4]
 ·cases h
theorem zo{v:TV}{cs:List TV}(h:xO H v=some cs):bY (av H v)=some (aT H cs):=by
 cases v with
 |lf t x=>cases t<;>first|(cases h;rfl)|(cases h;simp only[av,gM,bY,aT,rW,qAs])|cases h
 |agg c=>cases h;rfl
 |unk=>cases h
 |tup c=>cases h
 |nat n=>cases h;rfl
 |own l=>
  simp only[xO]at h;split at h
  ·rename_i hl;cases h;simp only[av,hl,dH,aT,rW,bY,qAs]
  ·rename_i hl;cases h;simp only[av,hl,dH,aT,rW,bY,qAs]
  ·cases h
 |psl l z c=>
  cases c with
  |some n=>cases h;rfl
  |none=>
   simp only[xO]at h;split at h
   ·rename_i hl;cases h;simp only[av,hl,bZ,aT,rW,bY,qAs]
   ·rename_i hl;cases h;simp only[av,hl,bZ,aT,rW,bY,qAs]
   ·cases h
 |_=>cases h;rfl
inductive Cv:Bool→AV→AV→Prop where
 |same (w:Bool) (a:AV):Cv w a a
 |share (es:List (List AV)) (t:Tag):Cv true (.slice es .shared) (.slice es t)
 |nilF:Cv true (.flist []) .nilp
inductive Cvs(w:Bool):List AV→List AV→Prop where
 |nil:Cvs w [] []
 |cons {x y:AV} {xs ys:List AV}:Cv w x y→Cvs w xs ys→Cvs w (x::xs) (y::ys)
theorem Cvs.refl(w:Bool):∀xs,Cvs w xs xs
 |[]=>.nil
 |x::xs=>.cons (.same w x) (Cvs.refl w xs)
theorem Cvs.app{w:Bool}{a b c d:List AV}(h:Cvs w a c)(k:Cvs w b d):Cvs w (a++b) (c++d):=by
 induction h with
 |nil=>exact k
 |cons h _ ih=>exact .cons h ih
theorem Cvs.len{w:Bool}{a c:List AV}(h:Cvs w a c):a.length=c.length:=by
 induction h with
 |nil=>rfl
 |cons _ _ ih=>simp[ih]
theorem gZ{t:LT}{u:U}{K:t.D→Option γ}(h:ig t u K=some b):∃x,u=⟨t,x⟩∧K x=some b:=by
 unfold ig at h;split at h
 ·rename_i e _;obtain⟨t',x⟩:=u
  grind
 ·cases h
theorem HY:∀{ts:List LT} {us:List U} {K:fU ts→Option γ},tq ts us K=some b→∃y,dG ts y=us∧K y=some b
 |[],us,K,h=>by
  unfold tq at h;split at h
  ·exact⟨(),rfl,h⟩
  ·cases h
 |[t],us,K,h=>by
  unfold tq at h;split at h
  ·obtain⟨x,rfl,h2⟩:=gZ h;exact⟨x,rfl,h2⟩
  ·cases h
 |t::t'::ts,us,K,h=>by
  unfold tq at h;split at h
  ·obtain⟨x,rfl,h2⟩:=gZ h;obtain⟨y,hy,h3⟩:=HY h2;exact⟨(x,y),by simp only[dG,hy],h3⟩
  ·cases h
theorem Vu{w:Bool}{t:LT}{v:TV}{K:U→Option γ}(hv:one v)(h:nK H w t v K=some b):∃u,K u=some b∧Cv w (gM u.t u.x) (av H v)∧xV u=[gM u.t u.x]:=by
 unfold nK at h;split at h
 ·rename_i t' x;exact⟨⟨t',x⟩,h,.same _ _,hv _⟩
 ·rename_i n;exact⟨_,h,.same _ _,rfl⟩
 ·cases w
  ·cases h
  ·simp only[cond_true]at h;split at h
   ·exact⟨_,h,.share [] .nils,rfl⟩
   ·cases h
 ·cases w
  ·cases h
  ·simp only[cond_true]at h;split at h
   ·exact⟨_,h,.nilF,rfl⟩
   ·cases h
 ·rename_i l;cases w
  ·cases h
  ·simp only[cond_true]at h;split at h
   ·rename_i e xs hl;exact⟨_,h,by simp only[av,hl];exact .share _ _,rfl⟩
   ·rename_i e xs hl;exact⟨_,h,by simp only[av,hl];exact .share _ _,rfl⟩
   ·cases h
 ·cases h
theorem aej{w:Bool}{L:LT→List TV→(U→List TV→Option γ)→Option γ}
  (hL:∀t cs K,L t cs K=some b→∃u r xs,K u r=some b∧aT H cs=xs++aT H r∧Cvs w (xV u) xs):
  ∀(ts:List LT) (cs:List TV) (K:List U→List TV→Option γ),Xm L ts cs K=some b→∃us r xs,K us r=some b∧aT H cs=xs++aT H r∧Cvs w (zM us) xs
 |[],cs,K,h=>⟨[],cs,[],h,rfl,.nil⟩
 |t::ts,cs,K,h=>by
  obtain⟨u,r,xs,h1,h2,h3⟩:=hL _ _ _ h;obtain⟨us,r',ys,h4,h5,h6⟩:=aej hL ts r _ h1;exact⟨u::us,r',xs++ys,h4,by rw[h2,h5,qAo],h3.app h6⟩
theorem LU{w:Bool}:∀(f:Nat) (t:LT) (cs:List TV) (K:U→List TV→Option γ),IX H w f t cs K=some b→∃u r xs,K u r=some b∧aT H cs=xs++aT H r∧Cvs w (xV u) xs:=by
 intro f
 induction f with
 |zero=>intro t cs K h;cases h
 |succ f ih=>
  intro t cs K h;have pk:∀(e:ET),(Xm (IX H w f) e.cs cs fun us r=>tq e.cs us fun y=>K ⟨.t e,e.mk y⟩ r)=some b→∃u r xs,K u r=some b∧aT H cs=xs++aT H r∧Cvs w (xV u) xs:=fun e h=>by
   obtain⟨us,r,xs,h1,h2,h3⟩:=aej ih _ _ _ h;obtain⟨y,rfl,h4⟩:=HY h1;refine⟨_,r,xs,h4,h2,?_⟩;rw[ao1]at h3;exact h3
  unfold IX at h;cases cs with
  |nil=>cases h
  |cons c r=>
   simp only at h;split at h
   ·rename_i e' x;have ex:∀t,IX H w f t (comps e' x++r) K=some b→∃u r_1 xs,K u r_1=some b∧aT H (.lf (.t e') x::r)=xs++aT H r_1∧Cvs w (xV u) xs:=fun t h=>by
     obtain⟨u,r',xs,h1,h2,h3⟩:=ih _ _ _ h;refine⟨u,r',xs,h1,?_,h3⟩;rw[yI,MH]at h2;simp only[aT];exact h2
    split at h
    ·exact⟨_,r,e'.enc x,h,by simp only[aT,rW],Cvs.refl _ _⟩
    grind
   ·rename_i hne;split at h
    ·grind
    ·rcases l8 c with h1|⟨e,x,rfl⟩
     ·obtain⟨u,h2,h3,h4⟩:=Vu h1 h;exact⟨u,r,[av H c],h2,by simp only[aT,h1 (av H c)],by rw[h4];exact .cons h3 .nil⟩
     grind
theorem amy{t:LT}{v:TV}{K:t.D→Option γ}(ht:∀e,t≠ .t e)(h:(nK H true t v fun u=>ig t u K)=some b):∃x,K x=some b∧one v∧Cv true (gM t x) (av H v):=by
 rcases l8 v with h1|⟨e,x,rfl⟩
 ·obtain⟨u,h2,h3,_⟩:=Vu h1 h;obtain⟨x,rfl,h4⟩:=gZ h2
  grind
 ·simp only[nK]at h;obtain⟨y,h5,_⟩:=gZ h
  grind
theorem uN{e:ET}{v:TV}{K:e.D→Option γ}(hsc:e.sc=false)(h:zG H e v K=some b):∃x xs,K x=some b∧bY (av H v)=some xs∧Cvs true (e.enc x) xs∧(e.sc=true→xs=[av H v]):=by
 unfold zG at h;split at h
 ·rename_i cs hc;obtain⟨u,r,xs,h1,h2,h3⟩:=LU _ _ _ _ h;split at h1
  ·obtain⟨x,rfl,h4⟩:=gZ h1;refine⟨x,xs,h4,?_,h3,fun hs=>by rw[hsc]at hs;cases hs⟩;rw[zo hc,h2];simp only[aT,qAs]
  ·cases h1
 ·cases h
theorem Y5{t:LT}{v:TV}{K:t.D→Option γ}{e:ET}{c:t.D→e.D}(ht:∀e,t≠ .t e)(he:∀x,e.enc (c x)=[gM t x])(h2:∀x y,Cv true (gM t x) y→bY y=some [y])(h:(nK H true t v fun u=>ig t u K)=some b):
  ∃x xs,K x=some b∧bY (av H v)=some xs∧Cvs true (e.enc (c x)) xs∧(e.sc=true→xs=[av H v]):=by
 obtain⟨x,h1,_,h3⟩:=amy ht h;exact⟨x,[av H v],h1,h2 x _ h3,by rw[he];exact .cons h3 .nil,fun _=>rfl⟩
theorem aar{e:ET}{v:TV}{K:e.D→Option γ}(h:abZ H e v K=some b):∃x xs,K x=some b∧bY (av H v)=some xs∧Cvs true (e.enc x) xs∧(e.sc=true→xs=[av H v]):=by
 cases e with
 |i=>exact Y5 (e:=.i) (c:=fun x=>x) (fun e h=>by cases h) (fun _=>rfl) (fun x y h=>by cases h;rfl) h
 |u=>exact Y5 (e:=.u) (c:=fun x=>x) (fun e h=>by cases h) (fun _=>rfl) (fun x y h=>by cases h;rfl) h
 |s=>exact Y5 (e:=.s) (c:=fun x=>x) (fun e h=>by cases h) (fun _=>rfl) (fun x y h=>by cases h;rfl) h
 |b=>exact Y5 (e:=.b) (c:=fun x=>x) (fun e h=>by cases h) (fun _=>rfl) (fun x y h=>by cases h;rfl) h
 |car=>exact uN rfl h
 |dec=>exact uN rfl h
 |ty=>exact uN rfl h
 |tm=>exact uN rfl h
 |env=>exact uN rfl h
 |val=>exact uN rfl h
 |bnd=>exact uN rfl h
 |vals=>exact Y5 (e:=.vals) (c:=fun x=>x) (fun e h=>by cases h) (fun _=>rfl) (fun x y h=>by cases h<;>rfl) h
 |tms=>exact Y5 (e:=.tms) (c:=fun x=>x) (fun e h=>by cases h) (fun _=>rfl) (fun x y h=>by cases h<;>rfl) h
theorem alF{e:ET}{v:TV}{K:e.D→Option γ}(h:abZ H e v K=some b):∃x xs,K x=some b∧bY (av H v)=some xs∧Cvs true (e.enc x) xs:=by
 obtain⟨x,xs,h1,h2,h3,_⟩:=aar h
 grind
theorem am9:∀(e:ET) (x:e.D),(e.enc x).map shr=e.enc x
 | .i,_=>rfl| .u,_=>rfl| .s,_=>rfl| .b,_=>rfl| .car,_=>rfl
 | .dec,x=>rfl
 | .ty,x=>by simp only[ET.enc,iE];rfl
 | .tm,x=>by simp only[ET.enc,jM];rfl
 | .env,_=>rfl
 | .val,x=>by simp only[ET.enc,iW];rfl
 | .bnd,x=>by have:=iW x.v;simp only[ET.enc,this];rfl
 | .vals,_=>rfl| .tms,_=>rfl
theorem alW:∀(e:ET) (x:e.D),AV.flist []∉e.enc x
 | .i,_=>by simp[ET.enc,encI]| .u,_=>by simp[ET.enc,BX]| .s,_=>by simp[ET.enc,encS]| .b,_=>by simp[ET.enc]| .car,_=>by simp[ET.enc,fF]
 | .dec,x=>by simp[ET.enc,d9]
 | .ty,x=>by simp[ET.enc,iE]
 | .tm,x=>by simp[ET.enc,jM]
 | .env,_=>by simp[ET.enc]
 | .val,x=>by simp[ET.enc,iW]
 | .bnd,x=>by simp[ET.enc,iW]
 | .vals,x=>by simp[ET.enc]
 | .tms,x=>by simp[ET.enc]
theorem anw{asz xs:List AV}(h:Cvs true asz xs)(h1:asz.map shr=asz)(h2:AV.flist []∉asz):xs.map shr=asz:=by
 induction h with
 |nil=>rfl
 |cons h _ ih=>
  simp only[qAF,List.cons.injEq,qAh,not_or]at h1 h2⊢;refine⟨?_,ih h1.2 h2.2⟩;cases h with
  |same=>exact h1.1
  |share=>rfl
  |nilF=>exact(h2.1 rfl).elim
theorem ab7{e:ET}{x:e.D}{xs:List AV}(h:Cvs true (e.enc x) xs):xs.map shr=e.enc x:=anw h (am9 e x) (alW e x)
theorem DC:∀(e:ET) (x:e.D),bn e.sz (e.enc x)=true
 | .i,_=>rfl| .u,_=>rfl| .s,_=>rfl| .b,_=>rfl| .car,_=>rfl| .dec,_=>rfl
 | .ty,x=>by simp only[ET.enc,iE];rfl
 | .tm,x=>by simp only[ET.enc,jM];rfl
 | .env,_=>rfl
 | .val,x=>by simp only[ET.enc,iW];rfl
 | .bnd,x=>by have:=iW x.v;simp only[ET.enc,this];rfl
 | .vals,_=>rfl| .tms,_=>rfl
theorem ZG:∀(H:List TObj) (e:ET) (x:e.D),aT H [e.seg x]=e.enc x
 |_,.i,_=>rfl|_,.u,_=>rfl|_,.s,_=>rfl|_,.b,_=>rfl|_,.car,_=>rfl|_,.dec,_=>rfl|_,.ty,_=>by simp[aT,ET.seg,rW]|_,.tm,_=>by simp[aT,ET.seg,rW]|_,.env,_=>rfl|_,.val,_=>by simp[aT,ET.seg,rW]
 |_,.bnd,_=>by simp[aT,ET.seg,rW]|_,.vals,_=>rfl|_,.tms,_=>rfl
theorem adq:∀(H:List TObj) (e:ET) (x:e.D),av H (e.seg x)=e.one x
 |_,.i,_=>rfl|_,.u,_=>rfl|_,.s,_=>rfl|_,.b,_=>rfl|_,.car,_=>rfl|_,.dec,_=>rfl|_,.ty,_=>rfl|_,.tm,_=>rfl|_,.env,_=>rfl|_,.val,_=>rfl|_,.bnd,_=>rfl|_,.vals,_=>rfl|_,.tms,_=>rfl
theorem PW:∀(e:ET) (g:Nat→Nat) (x:e.D),bS g (e.enc x)=e.enc x
 | .i,_,_=>rfl| .u,_,_=>rfl| .s,_,_=>rfl| .b,_,_=>rfl
 | .car,g,x=>adG g x| .dec,g,x=>ajy g x| .ty,g,x=>aay g x| .tm,g,x=>aaj g x
 | .env,g,x=>by simp only[ET.enc,bS,ren,nP,acM,akh]
 | .val,g,x=>ML g x
 | .bnd,g,x=>by simp only[ET.enc,bS,ren,ML g x.v]
 | .vals,g,x=>by simp only[ET.enc,bS,ren,nP,alX]
 | .tms,g,x=>by simp only[ET.enc,bS,ren,nP,ank]
theorem jy(e:ET)(g:Nat→Nat)(l:List e.D):bR g (l.map e.enc)=l.map e.enc:=FX (fun g x=>PW e g x) g l
theorem Bu(g:Nat→Nat):∀(t:LT) (x:t.D),ren g (gM t x)=gM t x
 | .n _,_=>rfl| .b,_=>rfl| .s,_=>rfl| .m _,_=>rfl
 | .l e,x=>by simp only[gM,ren,nP,jy]
 | .t e,x=>by simp only[gM,ren,PW]
 | .f e,x=>by simp only[gM,ren,jy]
end
end
section
open Go
noncomputable section
def aD(H:List TObj):List AObj:=H.map (dM H)
theorem gK(H:List TObj)(l:Nat):obj? (aD H) l=dM H (nth .dead H l):=by
 rw[eH];unfold obj? aD;rw[qAD,List.getD];cases H[l]?<;>rfl
theorem afT(H:List TObj)(v:Value):av H (Zg v)=BI v∧one (Zg v):=by
 unfold Zg BI;split
 ·rename_i k n;dsimp only;by_cases h:k.min≤n∧n≤k.max
  ·rw[if_pos h,decide_eq_true h.1,decide_eq_true h.2];exact⟨rfl,fun _=>rfl⟩
  ·rw[if_neg h];have:(decide (k.min≤n)&&decide (n≤k.max))=false:=by
    grind
   rw[this];exact⟨rfl,fun _=>rfl⟩
 ·exact⟨rfl,fun _=>rfl⟩
 ·rename_i s;dsimp only;by_cases h:s.data.toList.length≤9223372036854775807
  ·rw[if_pos h,decide_eq_true h];exact⟨rfl,fun _=>rfl⟩
  ·rw[if_neg h,decide_eq_false h];exact⟨rfl,fun _=>rfl⟩
 ·exact⟨rfl,fun _=>rfl⟩
 ·exact⟨rfl,fun _=>rfl⟩
 ·exact⟨rfl,fun _=>rfl⟩
 ·rename_i h1 h2 h3 h4 h5 h6;split<;>first|exact⟨rfl,fun _=>rfl⟩|(rename_i h;first|exact(h1 _ _ rfl).elim|exact(h2 _ rfl).elim|exact(h3 _ rfl).elim|exact(h4 rfl).elim|exact(h5 rfl).elim|exact(h6 rfl).elim)
theorem ac7(H:List TObj){α:Type}(f:α→TV)(g:α→AV)(h:∀a,av H (f a)=g a∧one (f a)):∀l:List α,aT H (l.map f)=l.map g
 |[]=>rfl
 |a::l=>by simp only[qAF,aT,(h a).2 _,(h a).1,ac7 H f g h l,qAH,qAz]
theorem anX(H:List TObj)(v:Value):av H (alN v)=ofConst v:=by
 unfold alN ofConst;split
 ·simp only[av,ac7 H Zg BI (afT H)]
 ·rename_i h;split
  ·grind
  ·exact(afT H v).1
theorem bA(H:List TObj)(t:List TV)(x:Operand):aS (aQ H t) x=av H (dF t x):=by
 cases x with
 |tmp n=>
  simp only[aS,dF,eH,mY,List.getD,qAD];cases t[n]?<;>rfl
 |const v=>exact(anX H v).symm
 |func f=>rfl
 |global g=>rfl
def Oe(H:List TObj):TWr→List TObj
 | .sl _ _=>H
 | .ob l o=>H.set l o
 | .st l off vs=>match nth .dead H l with
  | .box cs=>match nT cs off vs some with
   |some cs=>H.set l (.box cs)
   |none=>H
  |_=>H
 | .kill l=>match nth .dead H l with
  | .own e xs=>H.set l (.gone e xs)
  | .arr _ xs=>H.set l (.gon xs.length)
  | .box _=>H.set l .dead
  | .mp _ _=>H.set l .dead
  |_=>H
 | .nw l o=>H.set l o
 | .up l i e y=>match nth .dead H l with
  | .arr e' xs=>match ET.eq? e e' with
   |some ⟨q⟩=>H.set l (.arr e' (upd xs i (q▸y)))
   |none=>H
  |_=>H
def yc(H:List TObj):TWr→Wr
 | .sl n v=>.slot n (av H v)
 | .ob l o=>.obj l (dM (H.set l o) o)
 | .st l off vs=>.obj l (match dM H (nth .dead H l)with| .box cs=>.box (cs.take off++aT H vs++cs.drop (off+(aT H vs).length))|o=>o)
 | .kill l=>.obj l .dead
 | .nw l o=>.obj l (dM (H.set l o) o)
 | .up l i e y=>.obj l (match nth .dead H l with
  | .arr e' xs=>match ET.eq? e e' with
   |some ⟨q⟩=>.arr e'.sz ((upd xs i (q▸y)).map e'.enc)
   |none=>.dead
  |_=>.dead)
def sw(H:List TObj):List TWr→List Wr
 |[]=>[]
 |w::ws=>yc H w::sw (Oe H w) ws
theorem gD(H:List TObj)(d:Option Tmp)(v:TV):sw H (dA d v)=aA d (av H v):=by cases d<;>rfl
def jR:TV→Option (IntKind×Int)
 | .lf (.n k) x=>some (k,x)
 | .nat n=>some (.i64,n)
 |_=>none
theorem aee{H:List TObj}{v:TV}{k:IntKind}{a:Int}(h:av H v=.int k a):jR v=some (k,a):=by
 cases v with
 |lf t x=>cases t<;>simp only[av]at h<;>first|(cases h;rfl)|cases h
 |nat n=>cases h;rfl
 |own l=>simp only[av]at h;unfold dH at h;split at h<;>cases h
 |psl l z c=>
  cases c with
  |none=>simp only[av]at h;unfold bZ at h;split at h<;>cases h
  |some n=>cases h
 |_=>cases h
theorem akm{H:List TObj}{v:TV}{k:IntKind}{a:Int}(h:jR v=some (k,a)):av H v=.int k a:=by
 unfold jR at h;split at h
 ·cases h;rfl
 ·cases h;rfl
 ·cases h
def Kup(t:List TV)(up:List Nat):Prop:=∀i k a,mem up i=true→jR (nth .unk t i)=some (k,a)→k.wrap (a+1)=a+1
def Krl(t:List TV)(rl:List (Nat×Nat×Nat)):Prop:=∀d i j,(d,i,j)∈rl→∀k a,jR (nth .unk t i)=some (k,a)→∃c,jR (nth .unk t j)=some (k,c)∧∀b,nth .unk t d=.lf .b b→b=decide (a<c)
section
variable {P:Program}{γ:Type}{b:γ}{H:List TObj}{t:List TV}{θ:Nat→Option ET}{up:List Nat}{k:Nat}{o:Oper}{K:List Nat→List TWr→Option γ}
def ace(t:List TV)(o:Oper)(ws:List TWr):Prop:=∀d i j tt g,o.op=.binOp .lss tt (.tmp i) (.tmp j) g→o.dst=some d→
 ∃v,ws=[.sl d v]∧∀k a,jR (nth .unk t i)=some (k,a)→∃c,jR (nth .unk t j)=some (k,c)∧∀b,v=.lf .b b→b=decide (a<c)
def lI(P:Program)(H:List TObj)(t:List TV)(k:Nat)(o:Oper)(K:List Nat→List TWr→Option γ)(b:γ):Prop:=
 ∃rd ws ws',aH P k o (aS (aQ H t)) (obj? (aD H))=some (rd,ws')∧((∀x∈o.op.operands,VF (aS (aQ H t) x))→ws'=sw H ws)∧ace t o ws∧K rd ws=some b
theorem aoX{v:TV}{a:AV}(h:au P o.op (aS (aQ H t))=some a)(hv:(∀x∈o.op.operands,VF (aS (aQ H t) x))→a=av H v)(hr:ace t o (dA o.dst v))(hK:K [] (dA o.dst v)=some b):lI P H t k o K b:=
 ⟨[],dA o.dst v,aA o.dst a,by simp only[aH,h],fun hx=>by rw[hv hx,gD],hr,hK⟩
def adC:Op→Bool
 | .binOp _ _ _ _ _=>false
 |_=>true
theorem Zr(h:adC o.op=true)(ws:List TWr):ace t o ws:=fun _ _ _ _ _ e=>by rw[e]at h;cases h
theorem yD{rd:List Nat}{ws:List TWr}(h:aH P k o (aS (aQ H t)) (obj? (aD H))=some (rd,sw H ws))(hK:K rd ws=some b)(hn:adC o.op=true:=by rfl):lI P H t k o K b:=
 ⟨rd,ws,_,h,fun _=>rfl,Zr hn ws,hK⟩
theorem jc{v:TV}(h:au P o.op (aS (aQ H t))=some (av H v))(hK:K [] (dA o.dst v)=some b)(hn:adC o.op=true:=by rfl):lI P H t k o K b:=
 aoX h (fun _=>rfl) (Zr hn _) hK
theorem tJ{v:TV}{K:IntKind→Int→Option γ}(h:Eb v K=some b):∃k n,av H v=.int k n∧K k n=some b∧(isNat v=true→∃m:Nat,v=.nat m∧k=.i64∧n=m):=by
 unfold Eb at h;split at h
 ·exact⟨_,_,rfl,h,fun h=>by cases h⟩
 ·rename_i m;exact⟨_,_,rfl,h,fun _=>⟨m,rfl,rfl,rfl⟩⟩
 ·cases h
theorem ajT{p q:Bool}{op:BinOp}{tt:TypeId}{kk:IntKind}{a c:Int}{K:TV→Option γ}(h:aea p q op kk a c K=some b)
  (hp:p=true→kk.wrap (a+1)=a+1) (hq:q=true→kk=.i64∧0≤a):
  ∃v x,jD P op tt (.int kk a) (.int kk c)=some x∧(mE kk a→x=av H v)∧K v=some b∧(op=.lss→v=.lf .b (decide (a<c))):=by
 have one1:ab0 c=true→c=1:=fun h=>by unfold ab0 at h;split at h;rfl;cases h
 unfold aea at h;split at h
 ·rcases aX h with⟨hb,h⟩|⟨_,h⟩
  ·simp only[qAa]at hb;have:=one1 hb.2;subst this;exact⟨_,_,by simp only[jD,if_true,hp hb.1,av,gM],fun _=>rfl,h,fun e=>by cases e⟩
  ·exact⟨_,_,by simp only[jD,if_true,av,gM],fun _=>rfl,h,fun e=>by cases e⟩
 ·rcases aX h with⟨hb,h⟩|⟨_,h⟩
  ·simp only[qAa]at hb;have:=one1 hb.2;subst this;obtain⟨rfl,h1⟩:=hq hb.1;refine⟨.lf (.n .i64) (a - 1),_,by simp only[jD,if_true];rfl,fun hw=>?_,h,fun e=>by cases e⟩;have h2:a≤9223372036854775807:=hw.2;exact congrArg (AV.int .i64) (akg (n:=a - 1) (by omega) (by omega)).symm
  ·exact⟨_,_,by simp only[jD,if_true,av,gM],fun _=>rfl,h,fun e=>by cases e⟩
 ·exact⟨_,_,by simp only[jD,if_true,av,gM],fun _=>rfl,h,fun e=>by cases e⟩
 ·split at h
  ·obtain⟨x,h1,h2⟩:=ob h;unfold apH at h1;split at h1
   ·cases h1
   ·rename_i hc;cases h1;exact⟨_,_,by simp only[jD,if_true,hc,if_false,av,gM],fun _=>rfl,h2,fun e=>by cases e⟩
  ·cases h
 ·obtain⟨x,h1,h2⟩:=ob h;unfold ail at h1;split at h1
  ·cases h1
  ·rename_i hc;cases h1;exact⟨.lf (.n kk) _,_,by simp only[jD,if_true,hc,if_false,av,gM],fun _=>rfl,h2,fun e=>by cases e⟩
 ·exact⟨_,_,by simp only[jD,if_true,av,gM],fun _=>rfl,h,fun e=>by cases e⟩
 ·exact⟨_,_,by simp only[jD,if_true,av,gM],fun _=>rfl,h,fun e=>by cases e⟩
 ·exact⟨_,_,by simp only[jD,if_true,av,gM],fun _=>rfl,h,fun _=>rfl⟩
 ·exact⟨_,_,by simp only[jD,if_true,av,gM],fun _=>rfl,h,fun e=>by cases e⟩
 ·exact⟨_,_,by simp only[jD,if_true,av,gM],fun _=>rfl,h,fun e=>by cases e⟩
 ·exact⟨_,_,by simp only[jD,if_true,av,gM],fun _=>rfl,h,fun e=>by cases e⟩
 ·split at h
  ·obtain⟨x,h1,h2⟩:=ob h;unfold ah4 at h1;split at h1
   ·rename_i hc;cases h1;have hb:(IntKind.i64.bits:Int)=64:=rfl;exact⟨.lf (.n .i64) _,_,by simp only[jD,if_true,hb];rw[if_pos ⟨hc.1,by omega⟩];rfl,fun _=>rfl,h2,fun e=>by cases e⟩
   ·cases h1
  ·cases h
 ·obtain⟨x,h1,h2⟩:=ob h;unfold aoQ at h1;split at h1
  ·rename_i hc;cases h1;exact⟨.lf (.n kk) _,_,by simp only[jD,if_true];rw[if_pos hc];rfl,fun _=>rfl,h2,fun e=>by cases e⟩
  ·cases h1
 ·cases h
theorem anl{op:BinOp}{tt:TypeId}{a c:Str}{K:TV→Option γ}(h:akQ op a c K=some b):∃v,jD P op tt (.str a) (.str c)=some (av H v)∧K v=some b:=by
 unfold akQ at h;split at h
 ·obtain⟨x,h1,h2⟩:=ob h;unfold aiq at h1;split at h1
  ·rename_i hc;cases h1;exact⟨_,by simp only[jD,if_pos hc];rfl,h2⟩
  ·cases h1
 all_goals first|cases h|exact⟨_,rfl,h⟩
theorem anF{p o:Bool}{op:BinOp}{tt:TypeId}{x y:TV}{K:TV→Option γ}(h:alH (TI.of P) p o op tt x y K=some b)
  (hp:p=true→∀k a,jR x=some (k,a)→k.wrap (a+1)=a+1):
  ∃v r,jD P op tt (av H x) (av H y)=some r∧(VF (av H x)→r=av H v)∧K v=some b∧(op=.lss→∀k a,jR x=some (k,a)→∃c,jR y=some (k,c)∧v=.lf .b (decide (a<c))):=by
 unfold alH at h;split at h
 ·rcases aX h with⟨hb,h⟩|⟨_,h⟩
  ·have hb:Rw P tt=true:=hb;split at h
   all_goals first
    |cases h
    |(refine⟨_,_,?_,fun _=>rfl,h,fun e=>by cases e⟩;simp only[av,gM,jD,hb,if_true,C8];done)
    |(refine⟨_,_,?_,fun _=>rfl,h,fun e=>by cases e⟩;simp only[av,gM,jD,hb,if_true,C8];rename_i l _;cases l<;>rfl)
  ·cases h
 ·split at h
  ·obtain⟨v,h1,h2⟩:=anl (H:=H) h;exact⟨v,_,h1,fun _=>rfl,h2,fun _ k a hx=>by cases hx⟩
  ·cases h
 ·split at h
  ·rcases aX h with⟨hb,h⟩|⟨_,h⟩
   ·have hb:Li P tt=true:=hb;unfold amu at h;split at h
    all_goals first|cases h|exact⟨_,_,by simp only[av,gM,jD,hb,if_true],fun _=>rfl,h,fun e=>by cases e⟩
   ·cases h
  ·cases h
 ·obtain⟨k1,a,e1,h1,hn⟩:=tJ (H:=H) h;obtain⟨k2,c,e2,h2,_⟩:=tJ (H:=H) h1;rcases aX h2 with⟨hk,h3⟩|⟨_,h3⟩
  ·have hk:k1=k2:=by
    have:=qAc hk;cases k1<;>cases k2<;>first|rfl|cases this
   subst hk;obtain⟨v,r,g1,g2,g3,g4⟩:=ajT (P:=P) (H:=H) (tt:=tt) h3 (fun e=>hp (qBC.1 e).1 _ _ (aee e1)) (fun e=>by
    obtain⟨m,rfl,rfl,rfl⟩:=hn (qBC.1 e).1;exact⟨rfl,by omega⟩)
   rw[e1,e2];exact⟨v,r,g1,g2,g3,fun e k a' hx=>by
    rw[aee e1]at hx;cases hx;exact⟨c,aee e2,g4 e⟩⟩
  ·cases h3
end
end
end
section
open Go
section
variable {P:Program}{γ:Type}{b:γ}{H:List TObj}{t:List TV}{θ:Nat→Option ET}{up:List Nat}{k:Nat}{d:Option Tmp}{ty:TypeId}{ps:String}{aft:Array Edge}{gd:Option (Nat×Bool)}{K:List Nat→List TWr→Option γ}
theorem Ll(H:List TObj)(v:TV):av H (Gg v)=av H v:=by cases v<;>rfl
theorem oQ{H:List TObj}{k:Nat}(h:iq (nth .dead H k)=true):bD (obj? (aD H) k)=true:=by
 rw[gK];unfold iq at h;split at h
 ·rename_i e;rw[e];rfl
 ·cases h
theorem Vo{v:TV}{K:(e:ET)→List e.D→Option γ}(h:XY H v K=some b):∃e xs tg,av H v=.slice (xs.map e.enc) tg∧K e xs=some b:=by
 unfold XY at h;split at h
 ·exact⟨_,_,_,rfl,h⟩
 ·split at h
  ·rename_i hl;exact⟨_,_,_,by simp only[av,hl];rfl,h⟩
  ·rename_i hl;exact⟨_,_,_,by simp only[av,hl];rfl,h⟩
  ·cases h
 ·cases h
abbrev op'(d:Option Tmp)(op:Op)(ty:TypeId)(ps:String)(aft:Array Edge)(gd:Option (Nat×Bool)):Oper:=⟨d,op,ty,ps,aft,gd⟩
theorem anY{x:Operand}(h:bL (TI.of P) θ up k d t H (.move x) K=some b):lI P H t k (op' d (.move x) ty ps aft gd) K b:=
 jc (v:=dF t x) (by simp only[au,bA]) h
theorem ajf{x:Operand}(h:bL (TI.of P) θ up k d t H (.assign x) K=some b):lI P H t k (op' d (.assign x) ty ps aft gd) K b:=
 jc (v:=dF t x) (by simp only[au,bA]) h
theorem amV{c x y:Operand}(h:bL (TI.of P) θ up k d t H (.pick c x y) K=some b):lI P H t k (op' d (.pick c x y) ty ps aft gd) K b:=by
 simp only[bL]at h;split at h
 ·rename_i q hq;rcases aX h with⟨e,h⟩|⟨e,h⟩
  ·exact jc (v:=dF t x) (by simp only[au,bA,hq,av,gM,e,if_true]) h
  ·exact jc (v:=dF t y) (by simp only[au,bA,hq,av,gM,e,qAI,if_false]) h
 ·cases h
theorem afq{x:Operand}(h:bL (TI.of P) θ up k d t H (.nilCheck x) K=some b):lI P H t k (op' d (.nilCheck x) ty ps aft gd) K b:=by
 simp only[bL]at h;split at h
 ·rename_i e l hx;obtain⟨p,h1,h2⟩:=ob h;have hl:l=p.1::p.2:=by cases l with
   |nil=>cases h1
   |cons y r=>cases h1;rfl
  refine jc (v:=.eptr [e.seg p.1,.lf (.f e) p.2]) ?_ h2;have e1:aT H [e.seg p.1,.lf (.f e) p.2]=e.enc p.1++[.flist (List.map e.enc p.2)]:=by
   have:=ZG H e p.1;rw[show[e.seg p.1,TV.lf (.f e) p.2]=[e.seg p.1]++[TV.lf (.f e) p.2]from rfl,yI,this];rfl
  simp only[au,bA,hx,av,gM,e1,hl,qAF]
 ·rename_i l o hx;exact jc (v:=.ptr l o) (by simp only[au,bA,hx,av]) h
 ·rename_i cs hx;exact jc (v:=.eptr cs) (by simp only[au,bA,hx,av]) h
 ·rename_i f cs hx;exact jc (v:=.func f cs) (by simp only[au,bA,hx,av]) h
 ·cases h
theorem alG{op:BinOp}{tt t2:TypeId}{x y:Operand}(hk:Kup t up)(h:bL (TI.of P) θ up k d t H (.binOp op tt x y t2) K=some b):lI P H t k (op' d (.binOp op tt x y t2) ty ps aft gd) K b:=by
 simp only[bL]at h;obtain⟨v,r,h1,h2,h3,h4⟩:=anF (P:=P) (H:=H) h (fun hp kk a ha=>by
  split at hp
  ·rename_i i;exact hk i kk a hp ha
  ·cases hp)
 refine aoX (v:=v) (a:=r) (by simp only[au,bA];exact h1) (fun hv=>h2 ?_) ?_ h3
 ·rw[←bA];exact hv x (by simp[Op.operands])
 ·intro d' i j tt' g e1 e2;obtain⟨rfl,rfl,rfl,rfl,rfl⟩:=e1;subst e2;refine⟨v,rfl,fun k a hx=>?_⟩;obtain⟨c,g1,g2⟩:=h4 rfl k a hx;exact⟨c,g1,fun b hb=>by rw[g2]at hb;cases hb;rfl⟩
theorem anU{op:UnOp}{tt:TypeId}{x:Operand}(h:bL (TI.of P) θ up k d t H (.unOp op tt x) K=some b):lI P H t k (op' d (.unOp op tt x) ty ps aft gd) K b:=by
 simp only[bL]at h;split at h
 ·rename_i q hx;exact jc (v:=.lf .b (!q)) (by simp only[au,bA,hx,av,gM]) h
 ·rename_i k' n hx;exact jc (v:=.lf (.n k') _) (by simp only[au,bA,hx,av,gM]) h
 ·cases h
theorem ac1{s f:Nat}{x:Operand}(h:bL (TI.of P) θ up k d t H (.fieldAddr s x f) K=some b):lI P H t k (op' d (.fieldAddr s x f) ty ps aft gd) K b:=by
 simp only[bL]at h;rw[Jb]at h;split at h
 ·rename_i fo tt hf;split at h
  ·rename_i l o hx;exact jc (v:=.ptr l (o+fo)) (by simp only[au,bA,hx,hf,av]) h
  ·rename_i cs hx;obtain⟨a,r,h1,h2,h3⟩:=qM (H:=H) _ _ _ _ h;exact jc (v:=.eptr r) (by simp only[au,bA,hx,hf,av,h1,←h2,qCu]) h3
  ·rename_i l i z o hx;exact jc (v:=.ap l i z (o+fo)) (by simp only[au,bA,hx,hf,av,qBX]) h
  ·cases h
 ·cases h
theorem ak7{s f:Nat}{x:Operand}(h:bL (TI.of P) θ up k d t H (.field s x f) K=some b):lI P H t k (op' d (.field s x f) ty ps aft gd) K b:=by
 simp only[bL]at h;rw[Jb]at h;have key:∀(fo:Nat) (tt:TypeId) (cs:List TV),aL P s f=some (fo,tt)→av H (dF t x)=.agg (aT H cs)→(Xr (TI.of P) tt fo cs fun v=>K [] (dA d (Gg v)))=some b→lI P H t k (op' d (.field s x f) ty ps aft gd) K b:=fun fo tt cs hf hx h=>by
  obtain⟨v,h1,h2⟩:=RV (H:=H) h;exact jc (v:=Gg v) (by simp only[au,bA,hx,hf,h1,Ll]) h2
 split at h
 ·rename_i fo tt hf;split at h
  ·rename_i cs hx;exact key fo tt cs hf (by rw[hx];rfl) h
  ·rename_i e y hx;exact key fo tt _ hf (by rw[hx];simp only[av,gM,aT,rW,qAs]) h
  ·cases h
 ·cases h
theorem FR{e:ET}{sz:Nat}(h:Qg e sz=true):e.sz=sz:=qAc h
theorem arl{tt:TypeId}{sz:Nat}(h:(TI.of P tt).ix=.sl (some sz)):∃e,P.underlying tt=some (.slice e)∧sizeT P e=some sz:=by
 have h:GA P tt=.sl (some sz):=h;unfold GA at h
 grind
theorem aiJ{n:Int}{K:Nat→Option γ}{b:γ}:∀(m q:Nat),atK n m q K=some b→∃r,q≤r∧r<q+m∧n=(r:Int)∧K r=some b
 |0,_,h=>by cases h
 |m+1,q,h=>by
  rcases aX h with⟨hc,h⟩|⟨_,h⟩
  ·grind
  ·obtain⟨r,h1,h2,h3⟩:=aiJ m (q+1) h
   grind
theorem anP{len:Nat}{x:Int}{c:Nat}(h:ZP len x=some c):0≤x∧x≤len∧c=x.toNat:=by
 unfold ZP at h;split at h
 ·grind
 ·cases h
theorem aez{tt:TypeId}{x i:Operand}(h:bL (TI.of P) θ up k d t H (.indexAddr tt x i) K=some b):lI P H t k (op' d (.indexAddr tt x i) ty ps aft gd) K b:=by
 simp only[bL]at h;split at h
 ·rename_i sz hix;obtain⟨kk,n,e1,h1,_⟩:=tJ (H:=H) h;split at h1
  ·rename_i l z hx;split at h1
   ·rename_i e xs hl;rcases aX h1 with⟨hz,h2⟩|⟨_,h2⟩
    ·have hz:z=sz:=qAc hz;obtain⟨y,h3,h4⟩:=ob h2;obtain⟨g1,g2,g3⟩:=CB h3;have hs:(TI.of P tt).ix=.sl (some sz):=hix;obtain⟨ee,he,hsz⟩:=arl hs;refine jc (v:=.ap l n z 0) ?_ h4;simp only[au,bA,hx,av,bZ]
     grind
    ·cases h2
   ·cases h1
  ·obtain⟨e,xs,tg,e2,h2⟩:=Vo h1;rcases aX h2 with⟨hz,h2⟩|⟨_,h2⟩
   ·have hz:=FR hz;obtain⟨y,h3,h4⟩:=ob h2;obtain⟨g1,g2,g3⟩:=CB h3;obtain⟨v,h5,h6⟩:=RA (P:=P) (t:=tt) (x:=x) (i:=i) (ρ:=aS (aQ H t)) (K:=fun v=>v=.eptr (e.enc y)) (by
     simp only[bA];rw[hix,e1,e2];exact⟨e.enc y,by rw[qAD,g3];rfl,g1,by rw[BU];exact hz,rfl⟩)
    exact jc (v:=.eptr [e.seg y]) (by rw[h5,h6];simp only[av,ZG]) h4
   ·cases h2
 ·rename_i len sz hix;split at h
  ·rename_i l o hx;obtain⟨kk,n,e1,h1,_⟩:=tJ (H:=H) h;obtain⟨q,q1,q2,q3,h2⟩:=aiJ _ _ h1;obtain⟨v,h5,h6⟩:=RA (P:=P) (t:=tt) (x:=x) (i:=i) (ρ:=aS (aQ H t)) (K:=fun v=>v=.ptr l (o+q*sz)) (by
    simp only[bA];rw[hix,e1,hx];exact⟨⟨by omega,by omega⟩,by rw[q3];rfl⟩)
   exact jc (v:=.ptr l (o+q*sz)) (by rw[h5,h6];rfl) h2
  ·cases h
 ·cases h
theorem al0{tt:TypeId}{x i:Operand}(h:bL (TI.of P) θ up k d t H (.index tt x i) K=some b):lI P H t k (op' d (.index tt x i) ty ps aft gd) K b:=by
 simp only[bL]at h;split at h
 ·rename_i s hx;rcases aX h with⟨hs,h⟩|⟨_,h⟩
  ·have hs:au.isStrT P tt=true:=hs;obtain⟨kk,n,e1,h1,_⟩:=tJ (H:=H) h;obtain⟨y,h2,h3⟩:=ob h1;unfold xB at h2;split at h2
   ·rename_i hc;cases h2;exact jc (v:=.lf (.n .u8) _) (by simp only[au,bA,hx,e1,av,gM];rw[if_pos ⟨hs,hc⟩]) h3
   ·cases h2
  ·cases h
 ·cases h
theorem agS{x:Operand}{i:Nat}(h:bL (TI.of P) θ up k d t H (.extract x i) K=some b):lI P H t k (op' d (.extract x i) ty ps aft gd) K b:=by
 simp only[bL]at h;split at h
 ·rename_i vs hx;rcases aX h with⟨hi,h⟩|⟨_,h⟩
  ·have hi:i<vs.length:=qAf hi;refine jc (v:=Gg (nth .unk vs i)) ?_ h;simp only[au,bA,hx,av];simp only[mY,qAj,hi,if_true,Ll,eH,List.getD,qAD,qAd hi,qAw,qAq]
  ·cases h
 ·cases h
theorem Df{v:Option TV}{dd:Int}{K:Int→Option γ}(h:GH v dd K=some b):∃n,Bd (v.map (av H)) n dd∧K n=some b:=by
 unfold GH at h;split at h
 ·exact⟨_,.none _,h⟩
 ·obtain⟨kk,n,e1,h1,_⟩:=tJ (H:=H) h;exact⟨n,by simp only[qAw,e1];exact .int _ _ _,h1⟩
theorem acC(H:List TObj)(t:List TV)(x:Option Operand):x.map (aS (aQ H t))=(x.map (dF t)).map (av H):=by cases x<;>simp[bA]
theorem ak8{tt:TypeId}{x:Operand}{lo hi:Option Operand}(h:bL (TI.of P) θ up k d t H (.slice tt x lo hi none) K=some b):lI P H t k (op' d (.slice tt x lo hi none) ty ps aft gd) K b:=by
 simp only[bL]at h;split at h
 ·rename_i s hx;rcases aX h with⟨hs,h⟩|⟨_,h⟩
  ·obtain⟨lo',hl,h⟩:=Df (H:=H) h;obtain⟨hi',hh,h⟩:=Df (H:=H) h;obtain⟨y,h1,h2⟩:=ob h;obtain⟨r,⟨l0,h0,q1,q2,q3⟩,q4⟩:=aqH (B:=fun r=>r=y) h1 hl hh rfl;obtain⟨v,h5,h6⟩:=Q6 (P:=P) (t:=tt) (x:=x) (lo:=lo) (hi:=hi) (ρ:=aS (aQ H t)) (K:=fun v=>v=.str y) (by
    rw[bA,hx,acC,acC];rw[show(TI.of P tt).isStr=true from hs];exact⟨l0,h0,q1,q2,by rw[←q3,q4]⟩)
   exact jc (v:=.lf .s y) (by rw[h5,h6];rfl) h2
  ·cases h
 ·rename_i l z hx;split at h
  ·rename_i e xs sz hl hsz;obtain⟨hi',hh,h⟩:=Df (H:=H) h;obtain⟨c,h1,h2⟩:=ob h;obtain⟨g1,g2,g3⟩:=anP h1;have hs:au.sliceT P tt=some sz:=hsz;refine jc (v:=.psl l z (some c)) ?_ h2;have hb:bW (hi.map (aS (aQ H t))) xs.length xs.length=some c:=by
    rw[acC];generalize Option.map (av H) (Option.map (dF t) hi)=q at hh;cases hh with
    |none=>simp[bW];omega
    |int k n=>simp[bW];omega
   simp only[au,bA,hx,av,hl,bZ,hs,hb]
  ·cases h
 ·split at h
  ·rename_i sz hsz;obtain⟨e,xs,tg,e2,h2⟩:=Vo h
   ·rcases aX h2 with⟨hz,h⟩|⟨_,h⟩
    ·have hz:=FR hz;obtain⟨lo',hl,h⟩:=Df (H:=H) h;obtain⟨hi',hh,h⟩:=Df (H:=H) h;obtain⟨y,h1,h2⟩:=ob h;obtain⟨r,⟨l0,h0,q1,q2,q2',q3⟩,q4⟩:=aro (f:=e.enc) (sz:=e.sz) (B:=fun r=>r=y.map e.enc) h1 hl hh (DC e) rfl;obtain⟨v,h5,h6⟩:=Q6 (P:=P) (t:=tt) (x:=x) (lo:=lo) (hi:=hi) (ρ:=aS (aQ H t)) (K:=fun v=>v=.slice (y.map e.enc) .shared) (by
      rw[bA,e2,acC,acC];rw[hsz];exact⟨l0,h0,q1,q2,by rw[←hz];exact q2',by rw[←q3,q4]⟩)
     exact jc (v:=.lf (.l e) y) (by rw[h5,h6];rfl) h2
    ·cases h
  ·cases h
end
end
section
open Go
section
variable {P:Program}{γ:Type}{b:γ}{H:List TObj}{t:List TV}{θ:Nat→Option ET}{up:List Nat}{k:Nat}{d:Option Tmp}{ty:TypeId}{ps:String}{aft:Array Edge}{gd:Option (Nat×Bool)}{K:List Nat→List TWr→Option γ}
theorem Z4{a:AV}(h:okA a=true):av H (NJ a)=a∧one (NJ a):=by
 unfold okA at h;split at h<;>first|exact⟨rfl,fun _=>rfl⟩|cases h
theorem Gp:∀{z:List AV},RJ z=true→aT H (z.map NJ)=z
 |[],_=>rfl
 |a::z,h=>by
  simp only[RJ,qAa]at h;simp only[qAF,aT,(Z4 (H:=H) h.1).2 _,(Z4 (H:=H) h.1).1,Gp h.2,qAH,qAz]
theorem af7{z:AV}(h:okZ z=true):av H (P6 z)=z:=by
 have key:okA z=true→P6 z=NJ z→av H (P6 z)=z:=fun h e=>by
  rw[e];exact(Z4 h).1
 cases z with
 |agg cs=>simp only[P6,av,Gp (show RJ cs=true from h)]
 |_=>exact key h rfl
theorem aeL{place:Nat→Option (Nat×Nat)}:∀(l:List (Nat×TV)) (cs:List TV) (K:List TV→Option γ),Xu H place l cs K=some b→∃cs',iA place (aT H cs) (l.map fun p=>(p.1,av H p.2))=some (aT H cs')∧K cs'=some b:=by
 intro l
 induction l with
 |nil=>intro cs K h;exact⟨cs,rfl,h⟩
 |cons p l ih=>
  intro cs K h;simp only[Xu]at h;split at h
  ·rename_i off sz hp;split at h
   ·rename_i new hs;rcases aX h with⟨hw,h⟩|⟨_,h⟩
    ·have hw:(aT H new).length=sz:=by rw[iN];exact qAc hw
     obtain⟨a,r,h1,h2,h3⟩:=qM (H:=H) _ _ _ _ h;obtain⟨c,r',h4,h5,h6⟩:=qM (H:=H) _ _ _ _ h3;obtain⟨cs',h7,h8⟩:=ih _ _ h6;refine⟨cs',?_,h8⟩;have e1:(aT H cs).take off=aT H a:=by rw[h1,←h2,qDm]
     have e2:(aT H cs).drop (off+sz)=aT H r':=by
      grind
     simp only[qAF,iA,hp,zo hs];rw[if_pos ⟨hw,by rw[h1,h4];simp;omega⟩,e1,e2];rw[yI,yI,←qAo]at h7;exact h7
    ·cases h
   ·cases h
  ·cases h
theorem aa9(l:List (Nat×Operand)):(l.map fun p=>(p.1,aS (aQ H t) p.2))=(l.map fun p=>(p.1,dF t p.2)).map fun p=>(p.1,av H p.2):=by
 rw[qBt];exact qBi fun p _=>by simp only[Function.comp,bA]
theorem al2{tt:TypeId}{parts:Array (Nat×Operand)}(h:bL (TI.of P) θ up k d t H (.build tt parts) K=some b):lI P H t k (op' d (.build tt parts) ty ps aft gd) K b:=by
 rcases aX h with⟨hs,h⟩|⟨_,h⟩
 ·have hs:bU P tt=true:=hs;split at h
  ·rename_i z hz;have hz:bE P tt=some z:=hz;rcases aX h with⟨ho,h⟩|⟨_,h⟩
   ·obtain⟨cs',h1,h2⟩:=aeL _ _ _ h;rw[Gp ho,←aa9,funext (aaD P tt)]at h1;exact jc (v:=Py cs') (by simp only[au,hs,if_true,hz,h1,qAw,Y2]) h2
   ·cases h
  ·cases h
 ·rename_i hs;have hs:bU P tt=false:=hs;split at h
  ·rename_i len sz z hix hz;have hz:bE P tt=some z:=hz;have hix:GA P tt=.arr len (some sz):=hix;have ha:VL P tt=some sz:=by
    unfold GA at hix;unfold VL
    grind
   rcases aX h with⟨ho,h⟩|⟨_,h⟩
   ·obtain⟨cs',h1,h2⟩:=aeL _ _ _ h;rw[Gp ho,←aa9]at h1;exact jc (v:=Py cs') (by simp only[au,hs,qAI,if_false,ha,hz,h1,qAw,Y2]) h2
   ·cases h
  ·cases h
theorem afE{f:Nat}{first cap:Array Operand}(h:bL (TI.of P) θ up k d t H (.makeFunc (.func f) first cap) K=some b):lI P H t k (op' d (.makeFunc (.func f) first cap) ty ps aft gd) K b:=by
 rcases aX h with⟨hs,h⟩|⟨_,h⟩
 ·have hs:=qAc hs;refine jc (v:=.func f (cap.toList.map fun x=>Gg (dF t x))) ?_ h;simp only[au,hs,if_true,av,mY,qBt,Option.some.injEq,AV.func.injEq,true_and];exact qBi fun x _=>by simp only[Function.comp,Ll];rw[←mY,bA]
 ·cases h
theorem am0{tt:TypeId}{x:Operand}(h:bL (TI.of P) θ up k d t H (.load tt x) K=some b):lI P H t k (op' d (.load tt x) ty ps aft gd) K b:=by
 simp only[bL]at h;split at h
 ·rename_i cs hx;obtain⟨v,h1,h2⟩:=RV (H:=H) h;exact jc (v:=Gg v) (by simp only[au,bA,hx,av,Ll];simpa using h1) h2
 ·rename_i l off hx;split at h
  ·rename_i cs hl;obtain⟨v,h1,h2⟩:=RV (H:=H) h;refine yD (rd:=[l]) (ws:=dA d (Gg v)) ?_ h2;simp only[aH,au,bA,hx,av,gK,hl,dM,h1,qAw,gD,Ll]
  ·cases h
 ·rename_i l i z off hx;split at h
  ·rename_i e xs hl;rcases aX h with⟨hc,hh⟩|⟨_,h⟩
   ·clear h;simp only[qAa]at hc;obtain⟨c1,c2,c3⟩:=hc;have c1:z=e.sz:=qAc c1;have c2:off=0:=qAc c2;have c3:1≤z:=qAf c3;subst c1;obtain⟨y,h1,hh⟩:=ob hh;obtain⟨g1,g2,g3⟩:=CB h1;obtain⟨v,h2,h3⟩:=RV (H:=H) hh;rw[ZG,qAZ]at h2;refine yD (rd:=[l]) (ws:=dA d (Gg v)) ?_ h3;have hi:(i.toNat*e.sz+0)/e.sz=i.toNat:=by rw[qAJ,qCP _ (by omega)]
    have hget:(xs.map e.enc).getD i.toNat []=e.enc y:=by simp[g3]
    simp only[aH,au,bA,hx,av,gK,dM,gD,Ll]
    grind
   ·cases h
  ·cases h
 ·cases h
theorem aif{s tt:TypeId}{x:Operand}(h:bL (TI.of P) θ up k d t H (.convert s tt x) K=some b):lI P H t k (op' d (.convert s tt x) ty ps aft gd) K b:=by
 simp only[bL]at h;have key:∀(kk:IntKind) (n:Int),av H (dF t x)=.int kk n→(bif (TI.of P s).int.isSome then(match(TI.of P tt).int with|some k=>K [] (dA d (.lf (.n k) (k.wrap n)))|none=>none)else none)=some b→lI P H t k (op' d (.convert s tt x) ty ps aft gd) K b:=fun kk n hx h=>by
  rcases aX h with⟨hs,h⟩|⟨_,h⟩
  ·split at h
   ·rename_i k2 hk2;have h2:=YS hk2;obtain⟨k1,hk1⟩:=qCq.1 hs;have h1:=YS hk1;refine jc (v:=.lf (.n k2) (k2.wrap n)) ?_ h;simp only[au,bA,hx,au.convT,h1,h2,av,gM]
   ·cases h
  ·cases h
 split at h
 ·rename_i kk n hx;exact key _ _ (by rw[hx];rfl) h
 ·rename_i n hx;exact key .i64 n (by rw[hx];rfl) h
 ·cases h
theorem VH:∀{cs:List TV},Xf H cs=true→(aT H cs).all isScalar=true
 |[],_=>rfl
 |v::cs,h=>by
  simp only[Xf,qAa]at h;simp only[aT,List.all_append,VH h.2,qBq];have h1:=h.1;cases v with
  |lf tt x=>cases tt<;>first|rfl|(cases h1;done)|(rename_i e;have:=DC e x;simp only[bn,qAa]at this;exact this.2)
  |own l=>
   simp only[scB]at h1;split at h1
   ·rename_i hl;simp only[av,hl];rfl
   ·rename_i hl;simp only[av,hl];rfl
   ·cases h1
  |psl l z c=>
   cases c with
   |some n=>rfl
   |none=>
    simp only[scB]at h1;split at h1
    ·rename_i hl;simp only[av,hl];rfl
    ·rename_i hl;simp only[av,hl];rfl
    ·cases h1
  |_=>first|rfl|(cases h1;done)
theorem aaq{cs:List TV}{off:Nat}{vs:List TV}{K:List TV→Option γ}(h:nT cs off vs K=some b):∃cs',nT cs off vs some=some cs'∧K cs'=some b:=by
 have key:∀(f:Nat) (cs:List TV) (n:Nat) (K:List TV→List TV→Option γ),splitK f cs n K=some b→∃a r,(∀{δ:Type} (K':List TV→List TV→Option δ),splitK f cs n K'=K' a r)∧K a r=some b:=by
  intro f
  induction f with
  |zero=>intro cs n K h;cases h
  |succ f ih=>
   intro cs n K h;unfold splitK at h;cases n with
   |zero=>exact⟨[],cs,fun K'=>by unfold splitK;rfl,h⟩
   |succ m=>
    cases cs with
    |nil=>cases h
    |cons c r=>
     rcases aX h with⟨hw,h1⟩|⟨hw,h1⟩
     ·obtain⟨a,r',g1,g2⟩:=ih _ _ _ h1;exact⟨c::a,r',fun K'=>by unfold splitK;simp only[hw];exact g1 _,g2⟩
     ·split at h1
      ·rename_i e x;obtain⟨a,r',g1,g2⟩:=ih _ _ _ h1;exact⟨a,r',fun K'=>by unfold splitK;simp only[hw];exact g1 _,g2⟩
      ·cases h1
 obtain⟨a,r,g1,g2⟩:=key _ _ _ _ h;obtain⟨c,r',g3,g4⟩:=key _ _ _ _ g2;exact⟨_,by unfold nT;rw[g1,g3],g4⟩
theorem agb{cs cs' vs:List TV}{off:Nat}(H:List TObj)(h:nT cs off vs some=some cs'):aT H cs'=(aT H cs).take off++aT H vs++(aT H cs).drop (off+(aT H vs).length)∧off+(aT H vs).length≤(aT H cs).length:=by
 unfold nT at h;obtain⟨a,r,h1,h2,h3⟩:=qM (H:=H) _ _ _ _ h;obtain⟨c,r',h4,h5,h6⟩:=qM (H:=H) _ _ _ _ h3;cases h6;rw[←iN H vs]at h5;have e1:(aT H cs).take off=aT H a:=by rw[h1,←h2,qDm]
 have e2:(aT H cs).drop (off+(aT H vs).length)=aT H r':=by
  rw[h1,h4,←qAo,qDg (by simp only[qAg];omega)]
 refine⟨by rw[yI,yI,e1,e2,qAo],?_⟩;rw[h1,h4];simp only[qAg];omega
theorem adQ{xs ys:List AV}(h:Cvs false xs ys):xs=ys:=by
 induction h with
 |nil=>rfl
 |cons h _ ih=>rw[ih];cases h;rfl
theorem akN{tt:TypeId}{x y:Operand}(h:bL (TI.of P) θ up k d t H (.store tt x y) K=some b):lI P H t k (op' d (.store tt x y) ty ps aft gd) K b:=by
 simp only[bL]at h;split at h
 ·rename_i l off hx;split at h
  ·rename_i new sz hs hz;have hz:sizeT P tt=some sz:=hz;split at h
   ·rename_i cs hl;rcases aX h with⟨hc,h⟩|⟨_,h⟩
    ·simp only[qAa]at hc;obtain⟨⟨c1,c2⟩,c3⟩:=hc;have c1:(aT H new).length=sz:=by rw[iN];exact qAc c1
     have c2:off+sz≤(aT H cs).length:=by rw[iN];exact qAf c2
     refine yD ?_ h;simp only[aH,au,bA,hx,av,zo hs,gK,hl,dM];rw[if_pos ⟨by rw[c1];exact hz,by rw[c1];exact c2,VH c3⟩];simp only[sw,yc,hl,dM,gD];rfl
    ·cases h
   ·cases h
  ·cases h
 ·rename_i l i z off hx;split at h
  ·rename_i new sz hs hz;have hz:sizeT P tt=some sz:=hz;split at h
   ·rename_i e xs hl;rcases aX h with⟨hc,hh⟩|⟨_,h⟩
    ·clear h;simp only[qAa]at hc;obtain⟨⟨c1,c2,c4,c5⟩,c3⟩:=hc;have c1:(aT H new).length=sz:=by rw[iN];exact qAc c1
     have c2:z=e.sz:=qAc c2;subst c2;have c4:1≤sz:=qAf c4;have c5:off+sz≤e.sz:=qAf c5;obtain⟨x,h1,h⟩:=ob hh;obtain⟨g1,g2,g3⟩:=CB h1;obtain⟨cs,h2,h⟩:=aaq h;obtain⟨u,r,ys,h3,h4,h5⟩:=LU _ _ _ _ h;split at h3
     ·obtain⟨y',rfl,h6⟩:=gZ h3;have e1:aT H cs=e.enc y':=by
       rw[h4];simp only[aT,qAs];exact(adQ h5).symm
      have e2:=(agb H h2).1;rw[MH]at e2;have hi:(i.toNat*e.sz+off)/e.sz=i.toNat:=by
       rw[qBI,qDf (by omega),qCX (by omega),qAJ]
      have hm:(i.toNat*e.sz+off)%e.sz=off:=by
       rw[qBI,qCJ,qCm (by omega)]
      have hlen:i.toNat<(xs.map e.enc).length:=by rw[qAj];omega
      have hget:(xs.map e.enc).getD i.toNat []=e.enc x:=by simp[List.getD,g3]
      refine yD ?_ h6;have hr:(upd xs i y').map e.enc=(xs.map e.enc).set i.toNat ((e.enc x).take off++aT H new++(e.enc x).drop (off+(aT H new).length)):=by
       rw[←e2,e1,upd,qCK]
      simp only[aH,au,bA,hx,av,zo hs,gK,hl,dM,hi,hm,sw,yc,ET.eq_self,gD,hr,hget];by_cases hw:sizeT P tt=some (aT H new).length∧(aT H new).length=e.sz∧i.toNat*e.sz+off=i.toNat*e.sz∧i.toNat<(xs.map e.enc).length∧(aT H new).all isScalar
      ·rw[if_pos hw];have ho:off=0:=by omega
       subst ho;have hd:(e.enc x).drop (0+(aT H new).length)=[]:=qDj (by rw[BU];omega);rw[hd,qAQ,qAz,qAs];rfl
      ·rw[if_neg hw,if_pos ⟨by rw[c1];exact hz,by omega,hlen,by omega,VH c3⟩];rfl
     ·cases h3
    ·cases h
   ·cases h
  ·cases h
 ·cases h
theorem alx{tt:TypeId}(h:bL (TI.of P) θ up k d t H (.alloc tt) K=some b):lI P H t k (op' d (.alloc tt) ty ps aft gd) K b:=by
 simp only[bL]at h;split at h
 ·rename_i z hz;have hz:bE P tt=some z:=hz;rcases aX h with⟨hc,h⟩|⟨_,h⟩
  ·simp at hc;refine yD (rd:=[k]) ?_ h;simp only[aH,au,oQ hc.2,if_true,hz,qAw,sw,yc,dM,Gp hc.1,gD,av]
  ·cases h
 ·cases h
theorem apy{tt:TypeId}{x:Operand}(h:bL (TI.of P) θ up k d t H (.box tt x) K=some b)(hav:∀cs,xO H (dF t x)=some cs→iq (nth .dead H k)=true→aT (H.set k (.box cs)) cs=aT H cs):lI P H t k (op' d (.box tt x) ty ps aft gd) K b:=by
 simp only[bL]at h;split at h
 ·rename_i cs hx;rcases aX h with⟨hc,h⟩|⟨_,h⟩
  ·refine yD (rd:=[k]) ?_ h;simp only[aH,au,oQ hc,if_true,bA,zo hx,qAw,sw,yc,dM,gD,av,hav cs hx hc]
  ·cases h
 ·cases h
theorem agP{tt:TypeId}(h:bL (TI.of P) θ up k d t H (.makeMap tt none) K=some b):lI P H t k (op' d (.makeMap tt none) ty ps aft gd) K b:=by
 simp only[bL]at h;split at h
 ·split at h
  ·rcases aX h with⟨hc,h⟩|⟨_,h⟩
   ·refine yD (rd:=[k]) ?_ h;simp only[aH,au,oQ hc,if_true,sw,yc,dM,qCZ,gD,av]
   ·cases h
  ·cases h
 ·cases h
theorem an4{args:Array Operand}{ats:Array TypeId}(h:bL (TI.of P) θ up k d t H (.call {callee:=.builtin .len,args,argTypes:=ats}) K=some b):lI P H t k (op' d (.call {callee:=.builtin .len,args,argTypes:=ats}) ty ps aft gd) K b:=by
 simp only[bL]at h;split at h
 ·rename_i x tt ha hat;split at h
  ·rename_i s hx;rcases aX h with⟨hs,h⟩|⟨_,h⟩
   ·have hs:au.isStrT P tt=true:=hs;refine jc (v:=.nat s.length) ?_ h;simp only[au,ha,hat,bA,hx,av,gM,hs,if_true]
   ·cases h
  ·rename_i hx;rcases aX h with⟨hs,h⟩|⟨_,h⟩
   ·have hs:(au.sliceT P tt).isSome=true:=hs;refine jc (v:=.nat 0) ?_ h;simp only[au,ha,hat,bA,hx,hs];rfl
   ·cases h
  ·rename_i l z hx;split at h
   ·rename_i e xs hl;rcases aX h with⟨hs,h⟩|⟨_,h⟩
    ·have hs:(au.sliceT P tt).isSome=true:=hs;refine jc (v:=.nat xs.length) ?_ h;simp only[au,ha,hat,bA,hx,av,hl,bZ,hs,if_true]
    ·cases h
   ·cases h
  ·rcases aX h with⟨hs,h⟩|⟨_,h⟩
   ·have hs:(au.sliceT P tt).isSome=true:=hs;obtain⟨e,xs,tg,e2,h2⟩:=Vo h;refine jc (v:=.nat xs.length) ?_ h2;simp only[au,ha,hat,bA,e2,hs,if_true,av,qAj]
   ·cases h
 ·cases h
theorem apQ{args:Array Operand}{ats:Array TypeId}(h:bL (TI.of P) θ up k d t H (.call {callee:=.builtin .min,args,argTypes:=ats}) K=some b):lI P H t k (op' d (.call {callee:=.builtin .min,args,argTypes:=ats}) ty ps aft gd) K b:=by
 simp only[bL]at h;split at h
 ·rename_i x y ha;obtain⟨k1,a,e1,h1,_⟩:=tJ (H:=H) h;obtain⟨k2,c,e2,h2,_⟩:=tJ (H:=H) h1;rcases aX h2 with⟨hk,h3⟩|⟨_,h3⟩
  ·have hk:k1=k2:=by
    have:=qAc hk;cases k1<;>cases k2<;>first|rfl|cases this
   subst hk;refine jc (v:=.lf (.n k1) (if c<a then c else a)) ?_ h3;simp only[au,ha,bA,e1,e2,if_true,av,gM]
  ·cases h3
 ·cases h
end
end
end Abs
end Go.Proofs.YtbijdmihdagfaaaGreatDoor
