/- Part of a proof: see the last text. -/
import Derived.Test.YtpbkhogolfegfaaGreatDoorPnp
import Derived.Test.YtpbkhogolfegfaaGreatDoorRows
import Derived.LaidByTextLater
import Derived.SevenTiedAt
import Derived.LaidSub
import Derived.LaidOnce
set_option linter.unusedVariables false
set_option linter.unusedSimpArgs false
set_option linter.defProp false
noncomputable section
open ByteArray renaming empty->V4
open List renaming append_assoc->atS,append_nil->bcB,eq_nil_of_length_eq_zero->biP,flatMap_append->bqO,flatMap_cons->bjZ,getElem?_append_left->bcF,getElem?_concat_length->bkJ,getElem?_eq_getElem->abI,getElem?_eq_some_iff->abH,getElem?_map->biU,getElem?_set_ne->bkF,getElem?_set_self->bjT,length_append->V5,length_cons->Yy,length_map->bjC,length_singleton->bfG,length_take->bjG,map_append->bjS,map_congr_left->bnM,map_cons->bjM,map_map->bmQ,map_set->bsR,mem_append->bjK,mem_map->blE,mem_of_getElem?->bcH,mem_singleton->bjB,nodup_append->boF,range->bjR,range_succ->brT,take_append_getElem->bpX,take_of_length_le->blS
open Nat renaming add_zero->bkH,le_refl->aOC,zero_add->bcD,zero_le->bkI
namespace Go.Proofs.YtpbkhogolfegfaaGreatDoor
open Go
set_option maxRecDepth 100000
def seatTie1:Tryz.prog.laidByTextLater [("math/bits.deBruijn32tab",Rows.laid_math_bits_deBruijn32tab),("math/bits.deBruijn64tab",Rows.laid_math_bits_deBruijn64tab),("internal/strconv.uint64pow10",Rows.laid_internal_strconv_uint64pow10),("unicode/utf8.acceptRanges",Rows.laid_unicode_utf8_acceptRanges),("strconv.ErrRange",Rows.laid_strconv_ErrRange),("strconv.ErrSyntax",Rows.laid_strconv_ErrSyntax),("wageoffice/calendar.before",Rows.laid_wageoffice_calendar_before),("wageoffice/lexer.classes",Rows.laid_wageoffice_lexer_classes),("wageoffice/lexer.symbols",Rows.laid_wageoffice_lexer_symbols),("wageoffice/parser.operators",Rows.laid_wageoffice_parser_operators),("wageoffice/parser.roles",Rows.laid_wageoffice_parser_roles)] [.data,.data,.data,.data,.sentinel,.sentinel,.data,.data,.data,.data,.data] true :=
 Program.laidByTextLater_by_one 102 8 129 (by kernel_rfl) (by kernel_rfl) (by kernel_rfl) (by kernel_rfl) (by kernel_rfl) (by kernel_rfl) (λ_ _=>by kernel_rfl)
def pin_laid_unicode_utf8_first:Tryz.pinned.checked.prog.pinnedFits "unicode/utf8.first"=true:=by kernel_rfl
def noOwnUnsafe:Tryz.pinned.checked.prog.headLifts.contains "ownunsafe"=false:=by kernel_rfl
def fits1:Tryz.pinned.checked.prog.listedFits [("math/bits.deBruijn32tab",Rows.laid_math_bits_deBruijn32tab),("math/bits.deBruijn64tab",Rows.laid_math_bits_deBruijn64tab),("internal/strconv.uint64pow10",Rows.laid_internal_strconv_uint64pow10),("unicode/utf8.acceptRanges",Rows.laid_unicode_utf8_acceptRanges),("strconv.ErrRange",Rows.laid_strconv_ErrRange),("strconv.ErrSyntax",Rows.laid_strconv_ErrSyntax),("wageoffice/calendar.before",Rows.laid_wageoffice_calendar_before),("wageoffice/lexer.classes",Rows.laid_wageoffice_lexer_classes),("wageoffice/lexer.symbols",Rows.laid_wageoffice_lexer_symbols),("wageoffice/parser.operators",Rows.laid_wageoffice_parser_operators),("wageoffice/parser.roles",Rows.laid_wageoffice_parser_roles),("unicode/utf8.first",Rows.laid_unicode_utf8_first)]=true:=by
 unfold Program.listedFits;rw[noOwnUnsafe]
 kernel_rfl
def tie:Tryz.prog.laidByTextLater [("math/bits.deBruijn32tab",Rows.laid_math_bits_deBruijn32tab),("math/bits.deBruijn64tab",Rows.laid_math_bits_deBruijn64tab),("internal/strconv.uint64pow10",Rows.laid_internal_strconv_uint64pow10),("unicode/utf8.acceptRanges",Rows.laid_unicode_utf8_acceptRanges),("strconv.ErrRange",Rows.laid_strconv_ErrRange),("strconv.ErrSyntax",Rows.laid_strconv_ErrSyntax),("wageoffice/calendar.before",Rows.laid_wageoffice_calendar_before),("wageoffice/lexer.classes",Rows.laid_wageoffice_lexer_classes),("wageoffice/lexer.symbols",Rows.laid_wageoffice_lexer_symbols),("wageoffice/parser.operators",Rows.laid_wageoffice_parser_operators),("wageoffice/parser.roles",Rows.laid_wageoffice_parser_roles)] [.data,.data,.data,.data,.sentinel,.sentinel,.data,.data,.data,.data,.data] true :=
 Program.laidByTextLater.sub seatTie1 ["math/bits.deBruijn32tab","math/bits.deBruijn64tab","internal/strconv.uint64pow10","unicode/utf8.acceptRanges","strconv.ErrRange","strconv.ErrSyntax","wageoffice/calendar.before","wageoffice/lexer.classes","wageoffice/lexer.symbols","wageoffice/parser.operators","wageoffice/parser.roles"] (by kernel_rfl) (by kernel_rfl)
def parserParentheses_row_tie:Rows.parserParenthesesRow.laidByTextAt .later Tryz.pinned [.data,.data,.data,.data,.sentinel,.sentinel,.data,.data,.data,.data,.data,.pinned] true :=
 OpenClaim.laidByTextAt_pinned rfl rfl tie rfl rfl rfl rfl (λy hy _e=>by
   simp only[Rows.parserParenthesesRow,List.zip_cons_cons,List.zip_nil_right,List.mem_cons,List.mem_nil_iff,or_false] at hy;rcases hy with rfl | rfl | rfl | rfl | rfl | rfl | rfl | rfl | rfl | rfl | rfl | rfl
   cases _e;cases _e;cases _e;cases _e;cases _e;cases _e;cases _e;cases _e;cases _e;cases _e;cases _e;exact⟨pin_laid_unicode_utf8_first,by kernel_rfl⟩) fits1
end Go.Proofs.YtpbkhogolfegfaaGreatDoor
namespace Go.Proofs.YtpbkhogolfegfaaGreatDoor
open AI Go
namespace Mo
set_option maxRecDepth 100000
set_option maxHeartbeats 4000000
variable {mx:Int}
def B61:Code:=Ci Tryz.f61
def b61:Tryz.f61.body=some B61:=by kernel_rfl
def aCR{s:List Pc}(hl:s.length*24<=140737488355328):Pure P (G mx) 61 [.sl .lost s.length (rows Ov s)] (.sl .lost s.length (rows Ov s)):=by
 refine pure_nil (λhn hc=>?_) ?_;rw[hn,hc];exact ahC Hd.mixed Hd.Wm (R4 Tryz.func61 b61 (qG (v:=.sl .full 0 []) _ _ (yE 300 [pk]) (by kernel_rfl) .body (.wn (.z .nil) rfl))) rfl rfl;by_cases hm:s.length=0;obtain rfl:=biP hm;exact ahC Hd.mixed Hd.Wm (R4 Tryz.func61 b61 (qG (v:=.sl .full 0 []) _ _ (yE 300 [pk,pga (bbR .full ([]:List Pc) ([]:List Pc) (o:=.nn) ⟨[],0,[],0⟩ rfl (by decide))]) (by kernel_rfl) .body (.wn (.z .nil) rfl))) rfl rfl;exact ahC Hd.mixed Hd.Wm (R4 Tryz.func61 b61 (qG (v:=.sl (.row 0 3) s.length (rows Ov s)) _ _ (yE 300 [pk,Ue (N5.bbV u24 u24 i64 (by decide) .full ([]:List Pc) s (o:=.nn) (Wn.refl _) rfl (N5.aaF (λ_=>rfl) s) hm (by rw[List.length_nil,bcD];exact hl) (by simp;omega))]) (by kernel_rfl) .body (.wn (.s rfl .nil) (N5.tT s)))) (Hj (aZE (N5.Hj s)) rfl) (N5.tT s)
def B60:Code:=Ci Tryz.f60
def b60:Tryz.f60.body=some B60:=by kernel_rfl
def aoL{s:List Nd}(hm:¬s.length=0)(hl:s.length<=100000000):Sound P (G mx) (.call 60 [.sl .nn s.length (BC s)] ⟨[],0,[],0⟩ (.ret (.msl 0 0 s.length)) ⟨[(0,.cells (BC s))],1,[],0⟩):=by
 refine aSY Hd.mixed (amZ (m:=1) Tryz.func60 b60 ?_);exact aAI (n:=1) (m0:=0) Hd.Wm _ _ [0] [1] [⟨.msl 0 0 s.length,.msl 0 0 s.length,(.under rfl)⟩] [fbp (BC s) (GG.Hj s)] _ _ (yE 300 [pk,bgG (aUY s (o:=.nn) hm hl)]) (bkI _) (bkI _) (by kernel_rfl) .body
def nnI{c:Cx}{w:World}{n:Nat}{cs:List AV}{v:Value}(hm:¬n=0)(h:Rp c w (.sl .lost n cs) v):Rp c w (.sl .nn n cs) v:=by
 cases h with
 | sl0 _=>exact absurd rfl hm
 | K6 hn hc _=>exact .K6 hn hc trivial
def aoJ{s:List Nd}(hm:¬s.length=0)(hl:s.length<=100000000):Sound P (G mx) (.call 60 [.sl .lost s.length (BC s)] ⟨[],0,[],0⟩ (.ret (.msl 0 0 s.length)) ⟨[(0,.cells (BC s))],1,[],0⟩):=by
 intro cx w vs hs ha;refine aoL hm hl cx w vs hs ?_;cases ha with
 | cons h1 t=>exact .cons (nnI hm h1) t
def aoK{s:List Nd}(hm:¬s.length=0)(hl:s.length<=100000000)(nx nr:Nat):Cd.ok P (G mx) (.mC 60 [.sl .lost s.length (BC s)] nx nr (.msl (nx+0) 0 s.length) [((nx+0),.cells (BC s))] 1 [] 0) :=
 aNN Hd.Wm (aoJ hm hl) (Hj (GG.tT s) rfl) (.msl (by decide)) (.cons (.cells (.pl (GG.Hj s))) .nil)
def Hx:Code:=Ci Tryz.f24
def b24:Tryz.f24.body=some Hx:=by kernel_rfl
def uP:P.underlying 88=some (.slice 87):=by kernel_rfl
def sE:(P.info? 87).map (·.size)=some 1:=by kernel_rfl
def dE:(P.underlying 87).map O8=some false:=by kernel_rfl
def sL:(P.info? 27).map (·.size)=some 1:=by kernel_rfl
def dL:(P.underlying 27).map O8=some false:=by kernel_rfl
def sQ:(P.info? 24).map (·.size)=some 1:=by kernel_rfl
def dQ:(P.underlying 24).map O8=some false:=by kernel_rfl
def sI:(P.info? 3).map (·.size)=some 1:=by kernel_rfl
def zN(n:Nd):Nd:=⟨n.kind,n.name,n.unit,n.n,n.fr,n.to,n.known,n.BK,n.kids,0⟩
def Lg(L:List Nd)(i:Nat):List Nd:=(L.take i).map zN++L.drop i
def atI(L:List Nd):Lg L 0=L:=by simp[Lg]
def aBU(L:List Nd):Lg L L.length=L.map zN:=by simp[Lg]
def agJ(L:List Nd)(i:Nat)(h:i<=L.length):(Lg L i).length=L.length:=by simp[Lg];omega
def aBV{L:List Nd}{i:Nat}{x:Nd}(h:L[i]?=some x):(Lg L i)[i]?=some x:=by
 have hl:=(abH.1 h).1;unfold Lg;rw[List.getElem?_append_right (by simp;omega),List.getElem?_drop];simp only[bjC,bjG];rw[show min i L.length=i by omega,Nat.sub_self,bkH];exact h
def wQ{L:List Nd}{i:Nat}{x:Nd}(h:L[i]?=some x):(Lg L i).set i (zN x)=Lg L (i+1):=by
 obtain⟨hl,hx⟩:=abH.1 h;unfold Lg;have e1:L.drop i=x::L.drop (i+1):=by rw[<- hx];exact List.drop_eq_getElem_cons hl
 have e2:L.take (i+1)=L.take i++[x]:=by rw[<- hx];exact(bpX hl).symm
 rw[e1,e2,List.set_append_right _ _ (by simp;omega),bjS,atS];simp only[bjC,bjG];rw[show i - min i L.length=0 by omega];rfl
def yI{α:Type}{l:List α}{i:Nat}{x:α}(h:l[i]?=some x):l.set i x=l:=by
 obtain⟨hl,hx⟩:=abH.1 h;rw[<- hx];exact List.set_getElem_self hl
def pAt(nx:Nat)(L:List Nd)(i:Nat):List (Nat×Nat):=match L[i]? with
 | some k=>(match k.kids with
   | []=>[]
   | _::_=>[(nx,0+i*11+9)])
 | none=>[]
def kP(nx:Nat)(L:List Nd)(i:Nat):List (Nat×Nat):=(bjR i).flatMap (pAt nx L)
def bN(nx:Nat)(L:List Nd)(i:Nat):kP nx L (i+1)=kP nx L i++pAt nx L i:=by unfold kP;rw[brT,bqO];simp
def auP(nx:Nat)(L:List Nd)(i:Nat):(pAt nx L i).length<=1:=by
 unfold pAt;split;split<;>simp
 simp
def aIV(nx:Nat)(L:List Nd):∀i:Nat,(kP nx L i).length<=i
 | 0=>by simp[kP]
 | i+1=>by rw[bN,V5];have:=aIV nx L i;have:=auP nx L i;omega
abbrev FOs(g k cap:Nat)(j:List Value):List AV:=fr 72 [(2,.ptr 1 0),(3,.ptr 2 0),(4,.raw (some ⟨g,0,none⟩) k cap)] [13,36,61] j
abbrev FT(g k cap id off:Nat)(j:List Value):List AV:=fr 72 [(2,.ptr 1 0),(3,.ptr 2 0),(4,.raw (some ⟨g,0,none⟩) k cap),(5,.ptr id off)] [13,36,61] j
abbrev FI(g k cap id off n i:Nat)(j:List Value):List AV:=fr 72 [(2,.ptr 1 0),(3,.ptr 2 0),(4,.raw (some ⟨g,0,none⟩) k cap),(5,.ptr id off),(34,.sc (.int .i64 n)),(35,.sc (.int .i64 i))] [13,36,61] j
abbrev FL(g k cap id off n i:Nat)(j:List Value):List AV:=fr 72 [(2,.ptr 1 0),(3,.ptr 2 0),(4,.raw (some ⟨g,0,none⟩) k cap),(5,.ptr id off),(6,.sc (.int .i64 i)),(34,.sc (.int .i64 n)),(35,.sc (.int .i64 i))] [13,36,61] j
abbrev FK(g k cap id off n i nx:Nat)(j:List Value):List AV:=fr 72 [(2,.ptr 1 0),(3,.ptr 2 0),(4,.raw (some ⟨g,0,none⟩) k cap),(5,.ptr id off),(7,.ptr nx (0+i*11)),(34,.sc (.int .i64 n)),(35,.sc (.int .i64 i))] [13,36,61] j
section
variable {b:Nat} {B:Nat->Nat->Prop} {w0:World} {g cap:Nat} {ps:List (Nat×Nat)} {s:AS} {Q:QE} {j:List Value}
def bbW{k:Nat}(h:k≠0):Dd 0 ((k:Nat):Int)=true:=G4 (by omega)
def arB(t:Bool)(k:Nat)(hB:Dd 0 ((k:Nat):Int)=t)(h:∀f,AZ (G mx) f (.tmp 13)=some (.sc (.bool t))->wkF f (FOs g k cap (js 3 j [(0,.bool t)]))=FOs g k cap (js 3 j [(0,.bool t)])->Q .normal f s (Ei b B w0 g cap ps)):WE P (G mx) (Ei b B w0 g cap ps) (sb Hx 480) (FOs g k cap j) s Q:=by
 have hr:Uo (sb Hx 480) 3=true:=by kernel_rfl
 refine .reg hr ?_;show Rj P (G mx) _ _ [0,1,2] _ _ _;refine .q Hd.mixed Ei.GY hr (by decide) (.raw (some ⟨g,0,none⟩) k cap) (by kernel_rfl) (by kernel_rfl) ?_;refine .len hr (by decide) (x:=.tmp 11) (t:=88) (A:=some ⟨g,0,none⟩) (k:=k) (cap:=cap) (by kernel_rfl) uP (by kernel_rfl) ?_;refine .hb Hd.mixed Ei.GY hr (by decide) t hB (by kernel_rfl) ?_;exact .nil (h _ (by kernel_rfl) (by kernel_rfl))
def aZF{p:Nat×Nat}(hk:ps.length<=100000000)(h:WE P (G mx) (Ei b B w0 g cap ps) (sb Hx 1931) (FT g ps.length cap p.1 p.2 j) s Q):WE P (G mx) (Ei b B w0 g cap (ps++[p])) (sb Hx 482) (FOs g (ps++[p]).length cap j) s Q:=by
 have hw:Ka (((ps++[p]).length:Nat):Int) 1=((ps.length:Nat):Int):=by
   rw[V5,bfG,FH (by omega)];omega
 refine .Vl (x:=sb Hx 964) (y:=sb Hx 965) (by kernel_rfl) ?_;have hr:Uo (sb Hx 964) 7=true:=by kernel_rfl
 refine .reg hr ?_;show Rj P (G mx) _ _ [0,1,2,3,4,5,6] _ _ _;refine .q Hd.mixed Ei.GY hr (by decide) (.raw (some ⟨g,0,none⟩) (ps++[p]).length cap) (by kernel_rfl) (by kernel_rfl) ?_;refine .q Hd.mixed Ei.GY hr (by decide) (.raw (some ⟨g,0,none⟩) (ps++[p]).length cap) (by kernel_rfl) (by kernel_rfl) ?_;refine .len hr (by decide) (x:=.tmp 15) (t:=88) (A:=some ⟨g,0,none⟩) (k:=(ps++[p]).length) (cap:=cap) (by kernel_rfl) uP (by kernel_rfl) ?_;refine .hi Hd.mixed Ei.GY hr (by decide) ((ps.length:Nat):Int) hw (by kernel_rfl) ?_;refine .top hr (by decide) (t:=88) (t2:=87) (e:=87) (d:=18) (x:=.tmp 14) (y:=.tmp 17) (by kernel_rfl) (by kernel_rfl) (by kernel_rfl) uP sE dE sE (by kernel_rfl) (by kernel_rfl) (by kernel_rfl) ?_;refine .q Hd.mixed Ei.GY hr (by decide) (.ptr p.1 p.2) (by kernel_rfl) (by kernel_rfl) ?_;refine .nil ⟨rfl,?_⟩;refine .wk (fr2:=FT g (ps++[p]).length cap p.1 p.2 j) (by kernel_rfl) ?_;refine .Vl (x:=sb Hx 1930) (y:=sb Hx 1931) (by kernel_rfl) ?_;have hr:Uo (sb Hx 1930) 6=true:=by kernel_rfl
 refine .reg hr ?_;show Rj P (G mx) _ _ [0,1,2,3,4,5] _ _ _;refine .q Hd.mixed Ei.GY hr (by decide) (.raw (some ⟨g,0,none⟩) (ps++[p]).length cap) (by kernel_rfl) (by kernel_rfl) ?_;refine .q Hd.mixed Ei.GY hr (by decide) (.raw (some ⟨g,0,none⟩) (ps++[p]).length cap) (by kernel_rfl) (by kernel_rfl) ?_;refine .len hr (by decide) (x:=.tmp 21) (t:=88) (A:=some ⟨g,0,none⟩) (k:=(ps++[p]).length) (cap:=cap) (by kernel_rfl) uP (by kernel_rfl) ?_;refine .hi Hd.mixed Ei.GY hr (by decide) ((ps.length:Nat):Int) hw (by kernel_rfl) ?_;refine .bgH hr (by decide) (t:=88) (e:=87) (x:=.tmp 20) (y:=.tmp 23) (by kernel_rfl) uP sE (by kernel_rfl) (by kernel_rfl) ?_;refine .q Hd.mixed Ei.GY hr (by decide) (.raw (some ⟨g,0,none⟩) ps.length cap) (by kernel_rfl) (by kernel_rfl) ?_;refine .nil ⟨rfl,?_⟩;exact .wk (by kernel_rfl) h
variable {id off nx:Nat} {L:List Nd}
def azJ{H:List (Nat×Ao)}{cs:List AV}(hid:id < nx)(bJ:AI.look id H=some (.cells cs))(Yz:cs[off]?=some (.sl .lost L.length (BC L)))(hL:¬L.length=0)(hl:L.length<=100000000)
   (h:WE P (G mx) (Ei b B w0 g cap ps) (sb Hx 7727) (FI g ps.length cap id off L.length 0 j) ⟨(nx,.cells (BC L))::Ta id (.cells (cs.set off (.msl nx 0 L.length))) H,nx+1,[],0⟩ Q) :
   WE P (G mx) (Ei b B w0 g cap ps) (sb Hx 1931) (FT g ps.length cap id off j) ⟨H,nx,[],0⟩ Q:=by
 have hne:nx≠id:=by omega
 have hlt:=(abH.1 Yz).1;have bcQ:(cs.set off (.msl nx 0 L.length))[off]?=some (.msl nx 0 L.length):=bjT hlt;refine .Vl (x:=sb Hx 3862) (y:=sb Hx 3863) (by kernel_rfl) ?_;refine .run Hd.mixed Ei.GY [acR (x:=AI.look id H) (mB dL sL Yz) bJ,aRX (aoK hL hl nx 0),aCY (x:=AI.look id ((nx,.cells (BC L))::H)) (v:=.msl nx 0 L.length) (off:=off) (anP (cs2:=cs.set off (.msl nx 0 L.length)) sL hlt rfl) ((rH hne).trans bJ)] (e:=.normal) (fr2:=FT g ps.length cap id off j) (s2:=⟨Ta id (.cells (cs.set off (.msl nx 0 L.length))) ((nx,.cells (BC L))::H),nx+1,[],0⟩) (by kernel_rfl) (by intro v h;cases h) ⟨rfl,?_⟩;rw[aTQ hne];refine .Vl (x:=sb Hx 7726) (y:=sb Hx 7727) (by kernel_rfl) ?_;exact .adD Hd.mixed Ei.GY [acR (x:=AI.look id ((nx,.cells (BC L))::Ta id (.cells (cs.set off (.msl nx 0 L.length))) H)) (mB dL sL bcQ) ((rH hne).trans (fR bJ))] (e:=.normal) (fr2:=FI g ps.length cap id off L.length 0 j) (by kernel_rfl) (by intro v h;cases h) ⟨rfl,h⟩
def aSB{i n:Nat}{s:AS}(hk:ps.length+1<=100000000):WE P (G mx) (Ei b B w0 g cap ps) (sb Hx 31650622) (FK g ps.length cap id off n i nx j) s (λe f s' E=>∃g' cap',e=.normal/\wkF f (FK g' (ps++[(nx,0+i*11+9)]).length cap' id off n i nx j)=FK g' (ps++[(nx,0+i*11+9)]).length cap' id off n i nx j/\s'=s/\E=Ei b B w0 g' cap' (ps++[(nx,0+i*11+9)])):=by
 have hr:Uo (sb Hx 31650622) 7=true:=by kernel_rfl
 refine .reg hr ?_;show Rj P (G mx) _ _ [0,1,2,3,4,5,6] _ _ _;refine .q Hd.mixed Ei.GY hr (by decide) (.raw (some ⟨g,0,none⟩) ps.length cap) (by kernel_rfl) (by kernel_rfl) ?_;refine .q Hd.mixed Ei.GY hr (by decide) (.ptr nx (0+i*11)) (by kernel_rfl) (by kernel_rfl) ?_;refine .q Hd.mixed Ei.GY hr (by decide) (.ptr nx (0+i*11)) (by kernel_rfl) (by kernel_rfl) ?_;refine .q Hd.mixed Ei.GY hr (by decide) (.ptr nx (0+i*11+9)) (by kernel_rfl) (by kernel_rfl) ?_;refine .q Hd.mixed Ei.GY hr (by decide) (.sl .full 1 [.ptr nx (0+i*11+9)]) (by kernel_rfl) (by kernel_rfl) ?_;refine .push hr (by decide) (t:=88) (tx:=88) (e:=87) (e2:=87) (id:=nx) (off:=0+i*11+9) (x:=.tmp 62) (y:=.tmp 66) (by kernel_rfl) uP uP (by kernel_rfl) (by kernel_rfl) (by kernel_rfl) hk (λg' cap'=>?_);refine .q Hd.mixed Ei.GY hr (by decide) (.raw (some ⟨g',0,none⟩) (ps++[(nx,0+i*11+9)]).length cap') (by kernel_rfl) (by kernel_rfl) ?_;exact .nil ⟨g',cap',rfl,by kernel_rfl,rfl,rfl⟩
def atU{T:List (Nat×Ao)}{cs:List AV}{i:Nat}{x:Nd}(hid:id < nx)(bJ:AI.look id T=some (.cells cs))(Yz:cs[off]?=some (.msl nx 0 L.length))(hx:L[i]?=some x)(hp:x.BK.ps.length*24<=140737488355328)(t:Bool)(hB:Dd 0 ((x.kids.length:Nat):Int)=t)
   (h:WE P (G mx) (Ei b B w0 g cap ps) (sb Hx 15825311) (FK g ps.length cap id off L.length i nx (js 3 j [(2,.bool t)])) ⟨(nx,.cells (BC (Lg L (i+1))))::T,nx+1,[],0⟩ Q) :
   WE P (G mx) (Ei b B w0 g cap ps) (sb Hx 494540) (FI g ps.length cap id off L.length i j) ⟨(nx,.cells (BC (Lg L i)))::T,nx+1,[],0⟩ Q:=by
 have hi:=(abH.1 hx).1;have hne:nx≠id:=by omega
 have bdU:∀b:Ao,AI.look id ((nx,b)::T)=some (.cells cs):=λb=>(rH hne).trans bJ;have hm:=aBV hx;have hl:=agJ L i (by omega);have hm2:(Lg L (i+1))[i]?=some (zN x):=by rw[<- wQ hx];exact bjT (by omega)
 have hl2:=agJ L (i+1) (by omega);have hN:∀y:Nd,(CW y).length=11:=λ_=>rfl;refine .Vl (x:=sb Hx 989080) (y:=sb Hx 989081) (by kernel_rfl) ?_;refine .adD Hd.mixed Ei.GY [] (e:=.normal) (fr2:=FL g ps.length cap id off L.length i j) (by kernel_rfl) (by intro v h;cases h) ⟨rfl,?_⟩;refine .Vl (x:=sb Hx 1978162) (y:=sb Hx 1978163) (by kernel_rfl) ?_;refine .adD Hd.mixed Ei.GY [acR (x:=AI.look id ((nx,.cells (BC (Lg L i)))::T)) (mB dL sL Yz) (bdU _),Fi (aIT (id:=nx) hi)] (e:=.normal) (fr2:=FK g ps.length cap id off L.length i nx j) (by kernel_rfl) (by intro v h;cases h) ⟨rfl,?_⟩;refine .Vl (x:=sb Hx 3956326) (y:=sb Hx 3956327) (by kernel_rfl) ?_;refine .run Hd.mixed Ei.GY [aCY (x:=AI.look nx ((nx,.cells (BC (Lg L i)))::T)) (v:=.sc (.int .i64 0)) (off:=0+i*11+10) (anP (cs2:=BC ((Lg L i).set i (zN x))) sI (by rw[MK,IA hN,hl];omega) (by rw[MK,MK,yC hN (j:=10) (y:=zN x) (v:=.sc (.int .i64 0)) hm (by decide) rfl,bcD])) bP] (e:=.normal) (fr2:=FK g ps.length cap id off L.length i nx j) (s2:=⟨Ta nx (.cells (BC ((Lg L i).set i (zN x)))) ((nx,.cells (BC (Lg L i)))::T),nx+1,[],0⟩) (by kernel_rfl) (by intro v h;cases h) ⟨rfl,?_⟩;rw[axU,wQ hx]
 have c8:(BC (Lg L (i+1)))[0+i*11+7+1]?=some (.sl .lost x.BK.ps.length (rows Ov x.BK.ps)):=by
   rw[MK,show 0+i*11+7+1=i*11+8 by omega,sC hN hm2 (by decide)];rfl
 have c9:(BC (Lg L (i+1)))[0+i*11+9]?=some (.sl .lost x.kids.length (BC x.kids)):=by
   rw[MK,bcD,sC hN hm2 (by decide)];rfl
 refine .Vl (x:=sb Hx 7912654) (y:=sb Hx 7912655) (by kernel_rfl) ?_;refine .run Hd.mixed Ei.GY [acR (x:=AI.look nx ((nx,.cells (BC (Lg L (i+1))))::T)) (mB dQ sQ c8) bP,At (aCR hp),aCY (x:=AI.look nx ((nx,.cells (BC (Lg L (i+1))))::T)) (off:=0+i*11+7+1) (anP (cs2:=BC (Lg L (i+1))) sQ (by rw[MK,IA hN,hl2];omega) (yI c8).symm) bP] (e:=.normal) (fr2:=FK g ps.length cap id off L.length i nx j) (s2:=⟨Ta nx (.cells (BC (Lg L (i+1)))) ((nx,.cells (BC (Lg L (i+1))))::T),nx+1,[],0⟩) (by kernel_rfl) (by intro v h;cases h) ⟨rfl,?_⟩;rw[axU];refine .Vl (x:=sb Hx 15825310) (y:=sb Hx 15825311) (by kernel_rfl) ?_;exact .adD Hd.mixed Ei.GY [acR (x:=AI.look nx ((nx,.cells (BC (Lg L (i+1))))::T)) (mB dL sL c9) bP,pb hB] (e:=.normal) (fr2:=FK g ps.length cap id off L.length i nx (js 3 j [(2,.bool t)])) (by kernel_rfl) (by intro v h;cases h) ⟨rfl,h⟩
def aCN{i:Nat}{x:Nd}(hx:L[i]?=some x)(hk:x.kids=[]):pAt nx L i=[]:=by unfold pAt;rw[hx];simp only;rw[hk]
def aCO{i:Nat}{x:Nd}(hx:L[i]?=some x)(hk:x.kids≠[]):pAt nx L i=[(nx,0+i*11+9)]:=by
 unfold pAt;rw[hx];simp only;cases h:x.kids with
 | nil=>exact absurd h hk
 | cons a l=>rfl
def aDQ{T:List (Nat×Ao)}{cs:List AV}{i:Nat}{x:Nd}(hid:id < nx)(bJ:AI.look id T=some (.cells cs))(Yz:cs[off]?=some (.msl nx 0 L.length))(hx:L[i]?=some x)(hp:x.BK.ps.length*24<=140737488355328)(hb:(ps++kP nx L i).length+1<=100000000)(hi6:i < 9223372036854775807)
   (h:∀g' cap' j',Q .normal (FI g' (ps++kP nx L (i+1)).length cap' id off L.length (i+1) j') ⟨(nx,.cells (BC (Lg L (i+1))))::T,nx+1,[],0⟩ (Ei b B w0 g' cap' (ps++kP nx L (i+1)))) :
   WE P (G mx) (Ei b B w0 g cap (ps++kP nx L i)) (sb Hx 123635) (FI g (ps++kP nx L i).length cap id off L.length i j) ⟨(nx,.cells (BC (Lg L i)))::T,nx+1,[],0⟩ Q:=by
 have fin:∀g' cap' j',WE P (G mx) (Ei b B w0 g' cap' (ps++kP nx L (i+1))) (sb Hx 247271) (FK g' (ps++kP nx L (i+1)).length cap' id off L.length i nx j') ⟨(nx,.cells (BC (Lg L (i+1))))::T,nx+1,[],0⟩ Q:=λg' cap' j' =>
   .adD Hd.mixed Ei.GY [AI.pi hi6] (e:=.normal) (fr2:=FI g' (ps++kP nx L (i+1)).length cap' id off L.length (i+1) j') (by kernel_rfl) (by intro v h;cases h) (h g' cap' j')
 refine .Vl (x:=sb Hx 247270) (y:=sb Hx 247271) (by kernel_rfl) ?_;have hc:sb Hx 247270=.block 3 (sb Hx 494540):=by kernel_rfl
 rw[hc];refine .block ?_;by_cases hk:x.kids=[];have hs:kP nx L (i+1)=kP nx L i:=by rw[bN,aCN hx hk,bcB]
 refine atU hid bJ Yz hx hp false (DQ (by rw[hk];simp)) ?_;refine .mG false (x:=sb Hx 31650622) (y:=sb Hx 31650623) (q:=.tmp 61) (by kernel_rfl) (by kernel_rfl) ?_;rw[if_neg (by decide),show sb Hx 31650623=.skip by kernel_rfl];refine .skip ⟨rfl,?_⟩;have:=fin g cap (js 3 j [(2,.bool false)]);rwa[hs] at this;have hs:kP nx L (i+1)=kP nx L i++[(nx,0+i*11+9)]:=by rw[bN,aCO hx hk]
 refine atU hid bJ Yz hx hp true (G4 (by have:=List.length_pos_iff.2 hk;omega)) ?_;refine .mG true (x:=sb Hx 31650622) (y:=sb Hx 31650623) (q:=.tmp 61) (by kernel_rfl) (by kernel_rfl) ?_;rw[if_pos rfl];refine(aSB hb).mono ?_;rintro e f s' E ⟨g',cap',rfl,hf,rfl,rfl⟩;refine⟨rfl,.wk hf ?_⟩;have:=fin g' cap' (js 3 j [(2,.bool true)]);rwa[hs,<- atS] at this
def aRA{T:List (Nat×Ao)}{cs:List AV}(hid:id < nx)(bJ:AI.look id T=some (.cells cs))(Yz:cs[off]?=some (.msl nx 0 L.length))(hp:∀x∈L,x.BK.ps.length*24<=140737488355328)(hb:ps.length+L.length<=100000000)
   (h:∀g' cap' j',Q .normal (FOs g' (ps++kP nx L L.length).length cap' j') ⟨(nx,.cells (BC (L.map zN)))::T,nx+1,[],0⟩ (Ei b B w0 g' cap' (ps++kP nx L L.length))) :
   WE P (G mx) (Ei b B w0 g cap ps) (sb Hx 7727) (FI g ps.length cap id off L.length 0 j) ⟨(nx,.cells (BC L))::T,nx+1,[],0⟩ Q:=by
 rw[show sb Hx 7727=.block 2 (.loop (sb Hx 30908)) by kernel_rfl];refine .block ?_;refine .loop (λm f s E=>∃i g cap j,i+m=L.length/\f=FI g (ps++kP nx L i).length cap id off L.length i j/\s=⟨(nx,.cells (BC (Lg L i)))::T,nx+1,[],0⟩/\E=Ei b B w0 g cap (ps++kP nx L i)) ?_ (m:=L.length) ⟨0,g,cap,j,by omega,by simp[kP],by rw[atI],by simp[kP]⟩;rintro m _ _ _ ⟨i,g,cap,j,him,rfl,rfl,rfl⟩;refine .seqB (x:=sb Hx 61816) (y:=sb Hx 61817) (by kernel_rfl) ?_;by_cases hi:i < L.length;refine .adD Hd.mixed Ei.GY [pb (U6 hi)] (e:=.normal) (fr2:=FI g (ps++kP nx L i).length cap id off L.length i (js 3 j [(1,.bool true)])) (by kernel_rfl) (by intro v h;cases h) (.inl ⟨rfl,?_⟩);refine .Vl (x:=sb Hx 123634) (y:=sb Hx 123635) (by kernel_rfl) ?_;refine .mG true (x:=sb Hx 247268) (y:=sb Hx 247269) (q:=.tmp 36) (by kernel_rfl) (by kernel_rfl) ?_;rw[if_pos rfl,show sb Hx 247268=.skip by kernel_rfl];refine .skip ⟨rfl,?_⟩;have hx:L[i]?=some L[i]:=abI hi;refine aDQ hid bJ Yz hx (hp _ (List.getElem_mem hi)) (by rw[V5];have:=aIV nx L i;omega) (by omega) (λg' cap' j'=>.inl ⟨rfl,m - 1,by omega,i+1,g',cap',j',by omega,rfl,rfl,rfl⟩);have he:i=L.length:=by omega
 subst he;refine .adD Hd.mixed Ei.GY [pb (ltF (i:=L.length) (n:=L.length) (aOC _))] (e:=.normal) (fr2:=FI g (ps++kP nx L L.length).length cap id off L.length L.length (js 3 j [(1,.bool false)])) (by kernel_rfl) (by intro v h;cases h) (.inl ⟨rfl,?_⟩);refine .seqB (x:=sb Hx 123634) (y:=sb Hx 123635) (by kernel_rfl) ?_;refine .mG false (x:=sb Hx 247268) (y:=sb Hx 247269) (q:=.tmp 36) (by kernel_rfl) (by kernel_rfl) ?_;rw[if_neg (by decide),show sb Hx 247269=.exit 2 by kernel_rfl];refine .wk (fr2:=FOs g (ps++kP nx L L.length).length cap (js 3 j [(1,.bool false)])) (by kernel_rfl) (.exit (.inr ⟨(by intro h;cases h),.inr ⟨(by intro h;cases h),?_⟩⟩));rw[aBU];exact h g cap _
end
abbrev Bx:=List (Nd×Option Nat)
def kcC(n:Nd):Option Nat->AV
 | none=>.sl .lost n.kids.length (BC n.kids)
 | some id=>.msl id 0 n.kids.length
def wT(p:Nd×Option Nat):List AV:=[.sc (.int .i64 p.1.kind),.sc (.string p.1.name),.sc (.string p.1.unit),.sc (.int .i64 p.1.n),.sc (.int .i64 p.1.fr),.sc (.int .i64 p.1.to),.sc (.int .i64 p.1.known),.sc (.int .i64 p.1.BK.den),.sl .lost p.1.BK.ps.length (rows Ov p.1.BK.ps),kcC p.1 p.2,.sc (.int .i64 p.1.Bc)]
def bxC(l:Bx):List AV:=rows wT l
def bR(p:Nd×Option Nat):(wT p).length=11:=rfl
def uO(L:List Nd):bxC (L.map λn=>(n,none))=BC L:=by
 rw[MK];unfold bxC rows;rw[List.flatMap_map];rfl
def a1:Ao:=.cells [.sc (.int .i64 0),.sc (.string V4),.sc (.string V4),.sc (.int .i64 0),.sc (.int .i64 0),.sc (.int .i64 0),.sc (.int .i64 0),.sc (.int .i64 0),.sl .full 0 [],.sl .full 0 [],.sc (.int .i64 0)]
def rkC(n0:Nd):Option Nat->AV
 | none=>.sl .lost [n0].length (BC [n0])
 | some c=>.msl c 0 [n0].length
def aUV(rk:Option Nat)(n0:Nd):List (Nat×Ao):=[(2,.cells [rkC n0 rk]),(1,a1),(0,.cells (CW n0))]
def HH(rk:Option Nat)(n0:Nd)(M:List Bx):List (Nat×Ao):=Ih (M.map λl=>.cells (bxC l)) 3 (aUV rk n0)
def aeD{rk:Option Nat}{n0:Nd}{M:List Bx}{id:Nat}(h:id < 3):AI.look id (HH rk n0 M)=AI.look id (aUV rk n0):=VF h
def amW{rk:Option Nat}{n0:Nd}{M:List Bx}{i:Nat}{l:Bx}(h:M[i]?=some l):AI.look (3+i) (HH rk n0 M)=some (.cells (bxC l)):=lB (by rw[biU,h];rfl)
def ayM{rk:Option Nat}{n0:Nd}{M:List Bx}(c:Nat):Ta 2 (.cells [rkC n0 (some c)]) (HH rk n0 M)=HH (some c) n0 M:=Yb (by decide)
def aLX{rk:Option Nat}{n0:Nd}{M:List Bx}{i:Nat}{l:Bx}(hi:i < M.length):Ta (3+i) (.cells (bxC l)) (HH rk n0 M)=HH rk n0 (M.set i l):=by
 unfold HH;rw[sS (by simpa using hi),bsR]
def aeE{rk:Option Nat}{n0:Nd}{M:List Bx}{l:Bx}:HH rk n0 (M++[l])=(3+M.length,.cells (bxC l))::HH rk n0 M:=by
 unfold HH;rw[bjS,List.map_singleton,acH,bjC]
mutual
def cN:Nd->Nat
 | ⟨_,_,_,_,_,_,_,_,kids,_⟩=>1+cL kids
def cL:List Nd->Nat
 | []=>0
 | k::ks=>cN k+cL ks
end
def anX(n:Nd):cN n=1+cL n.kids:=by cases n;rw[cN]
def anU:∀l m:List Nd,cL (l++m)=cL l+cL m
 | [],m=>by simp[cL]
 | a::l,m=>by rw[List.cons_append,cL,cL,anU l m];omega
def anV:∀l:List Nd,l.length<=cL l
 | []=>by simp
 | a::l=>by rw[Yy,cL,anX];have:=anV l;omega
mutual
def Vd:Nd->Prop
 | ⟨_,_,_,_,_,_,_,BK,kids,_⟩=>BK.ps.length*24<=140737488355328/\psL kids
def psL:List Nd->Prop
 | []=>True
 | k::ks=>Vd k/\psL ks
end
def ahA:∀l:List Nd,psL l↔∀k∈l,Vd k
 | []=>by simp[psL]
 | a::l=>by rw[psL,ahA l];simp
def MM(n:Nd):Vd n↔n.BK.ps.length*24<=140737488355328/\∀k∈n.kids,Vd k:=by cases n;rw[Vd,ahA]
mutual
def DO:Nd->Nd
 | ⟨kind,name,unit,n,fr,to,known,BK,kids,_⟩=>⟨kind,name,unit,n,fr,to,known,BK,stL kids,0⟩
def stL:List Nd->List Nd
 | []=>[]
 | k::ks=>DO k::stL ks
end
def ahR:∀l:List Nd,stL l=l.map DO
 | []=>by rw[stL];rfl
 | k::l=>by rw[stL,ahR l];rfl
def Gp(n:Nd):DO n=⟨n.kind,n.name,n.unit,n.n,n.fr,n.to,n.known,n.BK,n.kids.map DO,0⟩:=by cases n;rw[DO,ahR]
def awI(n:Nd):DO (zN n)=DO n:=by rw[Gp,Gp];rfl
structure Inv(n0:Nd)(rk:Option Nat)(M:List Bx)(qs:List ((Nat×Nat)×List Nd)):Prop where
 aCV:∀q∈qs,(q.1=(2,0)/\rk=none/\q.2=[n0])\/∃(i a:Nat) (l:Bx) (m:Nd),q.1=(3+i,0+a*11+9)/\M[i]?=some l/\l[a]?=some (m,none)/\q.2=m.kids/\m.kids≠[]
 aVR:(qs.map (·.1)).Nodup
 all:(rk=none->(2,0)∈qs.map (·.1))/\∀(i a:Nat) (l:Bx) (m:Nd),M[i]?=some l->l[a]?=some (m,none)->m.kids≠[]->(3+i,0+a*11+9)∈qs.map (·.1)
 done:∀(i a:Nat) (l:Bx) (m:Nd) (c:Nat),M[i]?=some l->l[a]?=some (m,some c)->∃(i2:Nat) (l2:Bx),c=3+i2/\i < i2/\M[i2]?=some l2/\l2.map (·.1)=m.kids.map zN
 root:∀c,rk=some c->∃(i2:Nat) (l2:Bx),c=3+i2/\M[i2]?=some l2/\l2.map (·.1)=[zN n0]
 small:∀q∈qs,∀x∈q.2,Vd x
 zero:∀(i a:Nat) (l:Bx) (m:Nd) (c:Option Nat),M[i]?=some l->l[a]?=some (m,c)->m.Bc=0
def mu(qs:List ((Nat×Nat)×List Nd)):Nat:=(qs.map λq=>1+cL q.2).sum
def rK(l m:List ((Nat×Nat)×List Nd)):mu (l++m)=mu l+mu m:=by simp[mu]
def atK(qs:List ((Nat×Nat)×List Nd)):qs.length<=mu qs:=by
 induction qs with
 | nil=>simp
 | cons q qs ih =>
   have:mu (q::qs)=1+cL q.2+mu qs:=by simp[mu]
   rw[this,Yy];omega
def qAt(nx:Nat)(L:List Nd)(i:Nat):List ((Nat×Nat)×List Nd):=match L[i]? with
 | some k=>(match k.kids with
   | []=>[]
   | x::y=>[((nx,0+i*11+9),x::y)])
 | none=>[]
def kQ(nx:Nat)(L:List Nd)(i:Nat):List ((Nat×Nat)×List Nd):=(bjR i).flatMap (qAt nx L)
def qW(nx:Nat)(L:List Nd)(i:Nat):kQ nx L (i+1)=kQ nx L i++qAt nx L i:=by unfold kQ;rw[brT,bqO];simp
def rV(nx:Nat)(L:List Nd)(i:Nat):(qAt nx L i).map (·.1)=pAt nx L i:=by
 unfold qAt pAt;cases L[i]? with
 | none=>rfl
 | some k=>simp only;cases k.kids<;>rfl
def abZ(nx:Nat)(L:List Nd):∀i:Nat,(kQ nx L i).map (·.1)=kP nx L i
 | 0=>rfl
 | i+1=>by rw[qW,bN,bjS,abZ nx L i,rV]
def fI{nx:Nat}{L:List Nd}{i:Nat}{q:(Nat×Nat)×List Nd}:q∈kQ nx L i↔∃a k,a < i/\L[a]?=some k/\k.kids≠[]/\q=((nx,0+a*11+9),k.kids):=by
 unfold kQ;simp only[List.mem_flatMap,List.mem_range];constructor;rintro⟨a,ha,hq⟩;unfold qAt at hq;split at hq;rename_i k hk;split at hq;cases hq;rename_i x y hy;rw[bjB] at hq;exact⟨a,k,ha,hk,by rw[hy];simp,by rw[hq,hy]⟩;cases hq;rintro⟨a,k,ha,hk,hne,rfl⟩;refine⟨a,ha,?_⟩;unfold qAt;rw[hk];simp only;cases hy:k.kids with
 | nil=>exact absurd hy hne
 | cons x y=>simp
def aIW(nx:Nat)(L:List Nd):∀i:Nat,mu (kQ nx L i)<=cL (L.take i)
 | 0=>by simp[kQ,mu]
 | i+1=>by
   rw[qW,rK];have ih:=aIW nx L i;by_cases hi:i < L.length;rw[<- bpX hi,anU]
   have:mu (qAt nx L i)<=cL [L[i]]:=by
     unfold qAt;rw[abI hi];simp only[cL,bkH];rw[anX];cases hk:L[i].kids with
     | nil=>simp[mu]
     | cons x y=>simp[mu]
   omega;have:qAt nx L i=[]:=by unfold qAt;rw[List.getElem?_eq_none (by omega)]
   rw[this,blS (by omega)];rw[blS (by omega)] at ih;simp[mu] at ih ⊢;exact ih
def wG(nx:Nat)(L:List Nd):∀i:Nat,((kQ nx L i).map (·.1)).Nodup
 | 0=>by simp[kQ]
 | i+1=>by
   rw[qW,bjS];refine boF.2 ⟨wG nx L i,?_,?_⟩;rw[rV];have:=auP nx L i;cases h:pAt nx L i with
   | nil=>simp
   | cons a l=>rw[h] at this;simp at this;subst this;simp
   intro x hx y hy hxy;subst hxy;obtain⟨q,hq,rfl⟩:=blE.1 hx;obtain⟨a,k,ha,_,_,rfl⟩:=fI.1 hq;rw[rV] at hy;unfold pAt at hy;split at hy;split at hy;cases hy;rw[bjB] at hy;injection hy with _ h2
   omega;cases hy
def aaM{L:List Nd}{a:Nat}{p:Nd×Option Nat}(h:(((L.map zN).map λn=>((n,none):Nd×Option Nat)))[a]?=some p):∃k,L[a]?=some k/\p=(zN k,none):=by
 rw[biU,biU] at h;cases hk:L[a]? with
 | none=>rw[hk] at h;cases h
 | some k=>rw[hk] at h;cases h;exact⟨k,rfl,rfl⟩
def aAF{l:Bx}{a:Nat}{m:Nd}{c d:Option Nat}(h:l[a]?=some (m,c)):(l.set a (m,d)).map (·.1)=l.map (·.1):=by
 rw[bsR];exact yI (by rw[biU,h];rfl)
def fW{α:Type}{l:List α}{x y:α}(h:x∈l++[y])(hne:x≠y):x∈l:=by
 rcases bjK.1 h with h | h
 exact h;exact absurd (bjB.1 h) hne
section
variable {n0:Nd} {rk:Option Nat} {M:List Bx} {qs:List ((Nat×Nat)×List Nd)} {q:(Nat×Nat)×List Nd}
def Inv.low(h:Inv n0 rk M qs):∀q∈qs,q.1.1 < 3+M.length:=λq hq=>by
 rcases h.aCV q hq with ⟨e,_⟩ | ⟨i,a,l,m,e,hi,_⟩
 rw[e];show 2 < _;omega;rw[e];have:=(abH.1 hi).1;show 3+i < _;omega
def aBJ(h:((qs++[q]).map (·.1)).Nodup):∀q2∈qs,q2.1≠q.1:=λq2 h2 e=>by
 rw[bjS] at h;exact(boF.1 h).2.2 _ (List.mem_map_of_mem h2) _ (by simp) e
def asB(h:Inv n0 rk M (qs++[q])):∃(rk2:Option Nat) (M2:List Bx),Inv n0 rk2 M2 (qs++kQ (3+M.length) q.2 q.2.length)/\M2.length=M.length+1/\q.1.1 < 3+M.length/\q.2.length≠0 /\
   ∃cs,AI.look q.1.1 (HH rk n0 M)=some (.cells cs)/\cs[q.1.2]?=some (.sl .lost q.2.length (BC q.2))/\HH rk2 n0 M2=(3+M.length,.cells (BC (q.2.map zN)))::Ta q.1.1 (.cells (cs.set q.1.2 (.msl (3+M.length) 0 q.2.length))) (HH rk n0 M):=by
 have aXD:=h.low q (by simp);have hne:=aBJ h.aVR
 have hsm:∀q2∈qs++kQ (3+M.length) q.2 q.2.length,∀x∈q2.2,Vd x:=λq2 h2 x hx=>by
   rcases bjK.1 h2 with h2 | h2
   exact h.small q2 (by simp[h2]) x hx;obtain⟨a,k,ha,hk,_,rfl⟩:=fI.1 h2;exact((MM k).1 (h.small q (by simp) k (bcH hk))).2 x hx
 have aIN:((qs++kQ (3+M.length) q.2 q.2.length).map (·.1)).Nodup:=by
   rw[bjS];refine boF.2 ⟨?_,wG _ _ _,λx hx y hy e=>?_⟩;have:=h.aVR;rw[bjS] at this;exact(boF.1 this).1;subst e;obtain⟨q2,h2,rfl⟩:=blE.1 hx;obtain⟨q3,h3,e3⟩:=blE.1 hy;obtain⟨a,k,_,_,_,rfl⟩:=fI.1 h3;have:=h.low q2 (by simp[h2]);rw[<- e3] at this;simp at this
 have agP:∀(M3:List Bx),M3[M.length]?=some ((q.2.map zN).map λn=>(n,none))->∀q2∈kQ (3+M.length) q.2 q.2.length,∃(i a:Nat) (l:Bx) (m:Nd),q2.1=(3+i,0+a*11+9)/\M3[i]?=some l/\l[a]?=some (m,none)/\q2.2=m.kids/\m.kids≠[]:=λM3 hM q2 h2=>by
   obtain⟨a,k,ha,hk,tJ,rfl⟩:=fI.1 h2;exact⟨M.length,a,_,zN k,rfl,hM,by rw[biU,biU,hk];rfl,rfl,tJ⟩
 have atP:∀(a:Nat) (m:Nd),(((q.2.map zN).map λn=>((n,none):Nd×Option Nat)))[a]?=some (m,none)->m.kids≠[]->(3+M.length,0+a*11+9)∈(qs++kQ (3+M.length) q.2 q.2.length).map (·.1):=λa m hm hk=>by
   obtain⟨k,hk2,e⟩:=aaM hm;injection e with e1 _
   subst e1;rw[bjS];refine bjK.2 (.inr (blE.2 ⟨_,fI.2 ⟨a,k,(abH.1 hk2).1,hk2,hk,rfl⟩,rfl⟩))
 have agO:∀(a:Nat) (m:Nd) (c:Nat),(((q.2.map zN).map λn=>((n,none):Nd×Option Nat)))[a]?=some (m,some c)->False:=λa m c hm=>by
   obtain⟨k,_,e⟩:=aaM hm;injection e with _ e2
   cases e2
 have agQ:∀(a:Nat) (m:Nd) (c:Option Nat),(((q.2.map zN).map λn=>((n,none):Nd×Option Nat)))[a]?=some (m,c)->m.Bc=0:=λa m c hm=>by
   obtain⟨k,_,e⟩:=aaM hm;injection e with e1 _
   rw[e1];rfl
 rcases h.aCV q (by simp) with ⟨e1,hrk,e2⟩ | ⟨i,a,l,m,e1,hi,ha,e2,tJ⟩
 · subst hrk
   have QW:∀{i:Nat} {l:Bx},i≠M.length->(M++[((q.2.map zN).map λn=>((n,none):Nd×Option Nat))])[i]?=some l->M[i]?=some l:=λ{i l} hi hl=>by
     have:=(abH.1 hl).1;rw[V5,bfG] at this;rwa[bcF (by omega)] at hl
   have kN:∀{i:Nat} {l:Bx},M[i]?=some l->(M++[((q.2.map zN).map λn=>((n,none):Nd×Option Nat))])[i]?=some l:=λ{i l} hl=>by
     rw[bcF (abH.1 hl).1];exact hl
   have Ms:(M++[((q.2.map zN).map λn=>((n,none):Nd×Option Nat))])[M.length]?=some ((q.2.map zN).map λn=>(n,none)):=bkJ
   have hzero:∀(i a:Nat) (l:Bx) (m:Nd) (c:Option Nat),(M++[((q.2.map zN).map λn=>((n,none):Nd×Option Nat))])[i]?=some l->l[a]?=some (m,c)->m.Bc=0:=λi a l m c hi ha=>by
     by_cases vW:i=M.length;subst vW;rw[Ms] at hi;cases hi;exact agQ a m c ha;exact h.zero i a l m c (QW vW hi) ha
   refine⟨some (3+M.length),M++[(q.2.map zN).map λn=>(n,none)],⟨λq2 h2=>?_,aIN,⟨(λh=>nomatch h),λi a l m hi ha hk=>?_⟩,λi a l m c hi ha=>?_,λc hc=>?_,hsm,hzero⟩,by simp,aXD,by rw[e2];simp,[rkC n0 none],?_,?_,?_⟩;rcases bjK.1 h2 with h2 | h2
   rcases h.aCV q2 (by simp[h2]) with ⟨e3,_,_⟩ | ⟨i,a,l,m,f1,f2,f3,f4,f5⟩
   exact absurd (e3.trans e1.symm) (hne q2 h2);exact .inr ⟨i,a,l,m,f1,kN f2,f3,f4,f5⟩;exact .inr (agP _ Ms q2 h2);by_cases vW:i=M.length;subst vW;rw[Ms] at hi;cases hi;exact atP a m ha hk;have:=h.all.2 i a l m (QW vW hi) ha hk;rw[bjS] at this ⊢;refine bjK.2 (.inl (fW this (by show _≠q.1;rw[e1];intro h;injection h with h _;omega)))
   · by_cases vW:i=M.length
     subst vW;rw[Ms] at hi;cases hi;exact(agO a m c ha).elim
     · obtain⟨i2,l2,f1,f2,f3,f4⟩:=h.done i a l m c (QW vW hi) ha
       exact⟨i2,l2,f1,f2,kN f3,f4⟩
   cases hc;exact⟨M.length,_,rfl,Ms,by rw[e2];rfl⟩;rw[e1];exact aeD (by decide);rw[e1,e2];rfl;rw[aeE,uO,e1,e2];congr 1;exact(ayM (rk:=none) (3+M.length)).symm
 · have hiL:=(abH.1 hi).1
   have haL:=(abH.1 ha).1;have hlen:(M.set i (l.set a (m,some (3+M.length)))).length=M.length:=List.length_set
   have Ms:(M.set i (l.set a (m,some (3+M.length)))++[((q.2.map zN).map λn=>((n,none):Nd×Option Nat))])[M.length]?=some ((q.2.map zN).map λn=>(n,none)):=by
     have:=bkJ (l:=M.set i (l.set a (m,some (3+M.length)))) (a:=(q.2.map zN).map λn=>((n,none):Nd×Option Nat));rwa[hlen] at this
   have afN:(M.set i (l.set a (m,some (3+M.length)))++[((q.2.map zN).map λn=>((n,none):Nd×Option Nat))])[i]?=some (l.set a (m,some (3+M.length))):=by
     rw[bcF (by rw[hlen];exact hiL),bjT hiL]
   have QW:∀{i2:Nat} {l2:Bx},i2≠M.length->i2≠i->(M.set i (l.set a (m,some (3+M.length)))++[((q.2.map zN).map λn=>((n,none):Nd×Option Nat))])[i2]?=some l2->M[i2]?=some l2:=λ{i2 l2} h1 h2 hl=>by
     have:=(abH.1 hl).1;rw[V5,bfG,hlen] at this;rwa[bcF (by rw[hlen];omega),bkF (λe=>h2 e.symm)] at hl
   have kN:∀{i2:Nat} {l2:Bx},M[i2]?=some l2->∃l3,(M.set i (l.set a (m,some (3+M.length)))++[((q.2.map zN).map λn=>((n,none):Nd×Option Nat))])[i2]?=some l3/\l3.map (·.1)=l2.map (·.1)/\∀b p,(i2,b)≠(i,a)->l2[b]?=some p->l3[b]?=some p:=λ{i2 l2} hl=>by
     have hl2:=(abH.1 hl).1;by_cases h2:i2=i;subst h2;rw[hi] at hl;cases hl;exact⟨_,afN,aAF ha,λb p hb hp=>by rw[bkF (λe=>hb (by rw[e]))];exact hp⟩;exact⟨l2,by rw[bcF (by rw[hlen];exact hl2),bkF (λe=>h2 e.symm)];exact hl,rfl,λb p _ hp=>hp⟩
   have hzero:∀(i2 a2:Nat) (l2:Bx) (m2:Nd) (c:Option Nat),(M.set i (l.set a (m,some (3+M.length)))++[((q.2.map zN).map λn=>((n,none):Nd×Option Nat))])[i2]?=some l2->l2[a2]?=some (m2,c)->m2.Bc=0:=λi2 a2 l2 m2 c TX eU=>by
     by_cases vW:i2=M.length;subst vW;rw[Ms] at TX;cases TX;exact agQ a2 m2 c eU;by_cases h2:i2=i;subst h2;rw[afN] at TX;cases TX;by_cases h3:a2=a;subst h3;rw[bjT haL] at eU;cases eU;exact h.zero i2 a2 l _ none hi ha;rw[bkF (λe=>h3 e.symm)] at eU;exact h.zero i2 a2 l m2 c hi eU;exact h.zero i2 a2 l2 m2 c (QW vW h2 TX) eU
   refine⟨rk,M.set i (l.set a (m,some (3+M.length)))++[(q.2.map zN).map λn=>(n,none)],⟨λq2 h2=>?_,aIN,⟨λhr=>?_,λi2 a2 l2 m2 TX eU hk=>?_⟩,λi2 a2 l2 m2 c TX eU=>?_,λc hc=>?_,hsm,hzero⟩,by simp,aXD,by rw[e2];exact λh=>tJ (biP h),bxC l,?_,?_,?_⟩;rcases bjK.1 h2 with h2 | h2
   rcases h.aCV q2 (by simp[h2]) with h3 | ⟨i2,a2,l2,m2,f1,f2,f3,f4,f5⟩
   exact .inl h3;obtain⟨l3,g1,_,g3⟩:=kN f2;exact .inr ⟨i2,a2,l3,m2,f1,g1,g3 a2 _ (λe=>hne q2 h2 (by injection e with x y;rw[f1,e1,x,y])) f3,f4,f5⟩
   exact .inr (agP _ Ms q2 h2);have:=h.all.1 hr;rw[bjS] at this ⊢;refine bjK.2 (.inl (fW this (by show _≠q.1;rw[e1];intro h;injection h with h _;omega)))
   by_cases vW:i2=M.length;subst vW;rw[Ms] at TX;cases TX;exact atP a2 m2 eU hk
   have key:∀l4,M[i2]?=some l4->l4[a2]?=some (m2,none)->(i2,a2)≠(i,a)->(3+i2,0+a2*11+9)∈(qs++kQ (3+M.length) q.2 q.2.length).map (·.1):=λl4 h4 h5 h6=>by
     have:=h.all.2 i2 a2 l4 m2 h4 h5 hk;rw[bjS] at this ⊢
     refine bjK.2 (.inl (fW this (by
       show _≠q.1;rw[e1];intro e;injection e with x y
       exact h6 (by rw[show i2=i by omega,show a2=a by omega]))))
   by_cases h2:i2=i;subst h2;rw[afN] at TX;cases TX;by_cases h3:a2=a;subst h3;rw[bjT haL] at eU;cases eU;rw[bkF (λe=>h3 e.symm)] at eU;exact key l hi eU (λe=>by injection e with _ e;exact h3 e)
   exact key l2 (QW vW h2 TX) eU (λe=>by injection e with e _;exact h2 e)
   · by_cases vW:i2=M.length
     subst vW;rw[Ms] at TX;cases TX;exact(agO a2 m2 c eU).elim
     · have old:∀l4,M[i2]?=some l4->l4[a2]?=some (m2,some c)->∃(i3:Nat) (l3:Bx),c=3+i3/\i2 < i3/\(M.set i (l.set a (m,some (3+M.length)))++[((q.2.map zN).map λn=>((n,none):Nd×Option Nat))])[i3]?=some l3/\l3.map (·.1)=m2.kids.map zN:=λl4 h4 h5=>by
         obtain⟨i3,l3,f1,f2,f3,f4⟩:=h.done i2 a2 l4 m2 c h4 h5;obtain⟨l5,g1,g2,_⟩:=kN f3;exact⟨i3,l5,f1,f2,g1,g2.trans f4⟩
       by_cases h2:i2=i;subst h2;rw[afN] at TX;cases TX;by_cases h3:a2=a;subst h3;rw[bjT haL] at eU;cases eU;exact⟨M.length,_,rfl,hiL,Ms,by rw[e2,bmQ];simp[Function.comp_def]⟩;rw[bkF (λe=>h3 e.symm)] at eU;exact old l hi eU;exact old l2 (QW vW h2 TX) eU
   obtain⟨i3,l3,f1,f2,f3⟩:=h.root c hc;obtain⟨l5,g1,g2,_⟩:=kN f2;exact⟨i3,l5,f1,g1,g2.trans f3⟩;rw[e1];exact amW hi;rw[e1,e2];show(rows wT l)[0+a*11+9]?=_;rw[bcD,sC bR ha (by decide)];rfl;rw[aeE,uO,hlen,e1];congr 1;rw[<- aLX (by exact hiL)];congr 2;rw[e2];show rows wT (l.set a (m,some (3+M.length)))=(rows wT l).set (0+a*11+9) _;rw[bcD,yC bR (j:=9) (y:=(m,some (3+M.length))) (v:=.msl (3+M.length) 0 m.kids.length) ha (by decide) rfl]
def agL{p:Nat×Nat}(L:List Nd)(nx:Nat):mu (qs++kQ nx L L.length) < mu (qs++[(p,L)]):=by
 rw[rK,rK];have:=aIW nx L L.length;rw[List.take_length] at this;have h2:mu [(p,L)]=1+cL L:=by simp[mu]
 omega
end
section
variable {c:Cx} {w:World} {s:AS} {n0:Nd} {rk:Option Nat} {M:List Bx}
def mK(IL:∀g i v,MD c w g i v->MD (c.upto 0 0) w g i v){m:Nd}{k:Option Nat}{X Y:List AV}{vs:List Value}(hz:m.Bc=0)
   (hk:∀v,Rp c w (kcC m k) v->Rp (c.upto 0 0) w (.sl .lost (m.kids.map DO).length (BC (m.kids.map DO))) v) (hX:∀us,Cv c w X us->Cv (c.upto 0 0) w Y us) (h:Cv c w (wT (m,k)++X) vs):Cv (c.upto 0 0) w (CW (DO m)++Y) vs:=by
 have pl:∀{a:AV} {v:Value},plain a=true->Rp c w a v->Rp (c.upto 0 0) w a v:=λhp hr=>Rp.plain IL hp hr;rw[Gp];cases h with
 | cons h0 h=>cases h with
 | cons h1 h=>cases h with
 | cons h2 h=>cases h with
 | cons h3 h=>cases h with
 | cons h4 h=>cases h with
 | cons h5 h=>cases h with
 | cons h6 h=>cases h with
 | cons h7 h=>cases h with
 | cons h8 h=>cases h with
 | cons h9 h=>cases h with
 | cons h10 h =>
   have h10:Rp c w (.sc (.int .i64 m.Bc)) _:=h10;rw[hz] at h10;exact .cons (pl rfl h0) (.cons (pl rfl h1) (.cons (pl rfl h2) (.cons (pl rfl h3) (.cons (pl rfl h4) (.cons (pl rfl h5) (.cons (pl rfl h6) (.cons (pl rfl h7) (.cons (pl (N5.tT m.BK.ps) h8) (.cons (hk _ h9) (.cons (pl rfl h10) (hX _ h)))))))))))
def bbU(hs:St (G mx) c w s)(hb:∀g,some g∈c.CJ->∀i,¬c.bad g i)(hI:Inv n0 rk M [])(QW:∀i l,M[i]?=some l->s.get (3+i)=some (.cells (bxC l)))(IL:∀g i v,MD c w g i v->MD (c.upto 0 0) w g i v) :
   ∀(d i:Nat) (l:Bx),M.length<=i+d->M[i]?=some l->∀g,c.CJ[3+i]?=some (some g)->A1 (c.upto 0 0) w g 0 (BC (l.map λp=>DO p.1)):=by
 intro d
 induction d with
 | zero=>intro i l hd hl;have:=(abH.1 hl).1;omega
 | succ d ih =>
   intro i l hd hl g hg;have hgm:=bcH hg;obtain⟨vs,ext,T,hw,hr⟩:=Rr hs hg (QW i l hl)
   have key:∀(l2:Bx),(∀p∈l2,∃a:Nat,l[a]?=some p)->∀us,Cv c w (rows wT l2) us->Cv (c.upto 0 0) w (BC (l2.map λp=>DO p.1)) us:=by
     intro l2
     induction l2 with
     | nil=>intro _ us h;cases h;exact .nil
     | cons p l2 ih2 =>
       intro hm us h;obtain⟨m,k⟩:=p;obtain⟨a,ha⟩:=hm (m,k) (by simp);rw[Fv] at h;rw[bjM,GG.cons];refine mK IL (hI.zero i a l m k hl ha) (λv hv=>?_) (λus hu=>ih2 (λp hp=>hm p (by simp[hp])) us hu) h;cases k with
       | none =>
         have hk:m.kids=[]:=by
           by_cases hk:m.kids=[];exact hk;exact absurd (hI.all.2 i a l m hl ha hk) (by simp)
         have hv:Rp c w (.sl .lost m.kids.length (BC m.kids)) v:=hv;rw[hk] at hv ⊢;exact Rp.plain IL rfl hv
       | some cc =>
         obtain⟨i2,l3,rfl,TX,hl3,hf⟩:=hI.done i a l m cc hl ha;have hv:Rp c w (.msl (3+i2) 0 m.kids.length) v:=hv;cases hv with
         | @msl _ _ _ g2 cap hn hid =>
           have h3:=ih i2 l3 (by omega) hl3 g2 hid
           have e:(l3.map λp=>DO p.1)=m.kids.map DO:=by
             have:=congrArg (List.map DO) hf;rw[bmQ,bmQ] at this;rw[show(λp:Nd×Option Nat=>DO p.1)=DO∘(·.1) from rfl,this];exact bnM λx _=>awI x
           rw[e] at h3;rw[bjC];exact .K6 hn h3 trivial
   refine A1.Qw (key l (λp hp=>by obtain⟨a,ha⟩:=List.mem_iff_getElem?.1 hp;exact⟨a,ha⟩) vs hr) (λj v hj=>?_);rw[bcD];refine⟨hs.Np g hgm,λGr=>?_,cell_of_heap hw (UE hj)⟩;rcases Gr with Gr | ⟨r,n',cap',OL,hr,_⟩ | Gr
   simp[Cx.upto] at Gr;simp[Cx.upto] at hr;exact hb g hgm j Gr
def ajY(hI:Inv n0 rk M [])(QW:∀i l,M[i]?=some l->s.get (3+i)=some (.cells (bxC l))){i:Nat}{k:Option Nat}(hl:M[i]?=some [(zN n0,k)]):aeC (G mx) s (.agg (wT (zN n0,k))) (.agg (CW (DO n0))):=by
 intro c w u hs hb hr
 have IL:∀g i v,MD c w g i v->MD (c.upto 0 0) w g i v:=λg i v hv=>⟨hv.1,λGr=>by
   rcases Gr with Gr | ⟨r,n',cap',OL,hr,_⟩ | Gr
   simp[Cx.upto] at Gr;simp[Cx.upto] at hr;exact hv.2.1 (.inr (.inr Gr)),hv.2.2⟩
 cases hr with
 | agg h =>
   have:=mK (X:=[]) (Y:=[]) IL (m:=zN n0) (k:=k) rfl (λv hv=>?_) (λus hu=>by cases hu;exact .nil) (by rw[bcB];exact h);rw[bcB,awI] at this;exact .agg this
   · cases k with
     | none =>
       have hk:(zN n0).kids=[]:=by
         by_cases hk:(zN n0).kids=[];exact hk;exact absurd (hI.all.2 i 0 _ _ hl rfl hk) (by simp)
       have hv:Rp c w (.sl .lost (zN n0).kids.length (BC (zN n0).kids)) v:=hv;rw[hk] at hv ⊢;exact Rp.plain IL rfl hv
     | some cc =>
       obtain⟨i2,l3,rfl,TX,hl3,hf⟩:=hI.done i 0 _ _ cc hl rfl;have hv:Rp c w (.msl (3+i2) 0 (zN n0).kids.length) v:=hv;cases hv with
       | @msl _ _ _ g2 cap hn hid =>
         have h3:=bbU hs hb hI QW IL M.length i2 l3 (by omega) hl3 g2 hid
         have e:(l3.map λp=>DO p.1)=(zN n0).kids.map DO:=by
           have:=congrArg (List.map DO) hf;rw[bmQ,bmQ] at this;rw[show(λp:Nd×Option Nat=>DO p.1)=DO∘(·.1) from rfl,this];exact bnM λx _=>awI x
         rw[e] at h3;rw[bjC];exact .K6 hn h3 trivial
end
section
variable {b:Nat} {B:Nat->Nat->Prop} {w0:World} {Q:QE} {n0:Nd}
def aCM{g:Nat}{j:List Value}(hc:cL [n0]<=99999998)(hp:Vd n0)
   (h:∀rk M g cap j,Inv n0 rk M []->Q .normal (FOs g 0 cap j) ⟨HH rk n0 M,3+M.length,[],0⟩ (Ei b B w0 g cap [])) :
   WE P (G mx) (Ei b B w0 g 1 [(2,0)]) (sb Hx 30) (FOs g 1 1 j) ⟨HH none n0 [],3,[],0⟩ Q:=by
 rw[show sb Hx 30=.block 0 (.loop (sb Hx 120)) by kernel_rfl];refine .block ?_;refine .loop (λm f s E=>∃rk M qs g cap j,Inv n0 rk M qs/\m=mu qs/\mu qs<=99999999/\f=FOs g (qs.map (·.1)).length cap j/\s=⟨HH rk n0 M,3+M.length,[],0⟩/\E=Ei b B w0 g cap (qs.map (·.1))) ?_ (m:=mu [((2,0),[n0])]) ⟨none,[],[((2,0),[n0])],g,1,j,?_,rfl,by simp[mu];omega,rfl,rfl,rfl⟩;rotate_left;exact⟨λq hq=>.inl (by rw[bjB.1 hq];exact⟨rfl,rfl,rfl⟩),by simp,⟨λ_=>by simp,λi a l m hi=>by simp at hi⟩,λi a l m c hi=>by simp at hi,λc hc=>(nomatch hc),λq hq x hx=>by rw[bjB.1 hq] at hx;rw[bjB.1 hx];exact hp,λi a l m c hi=>by simp at hi⟩;rintro m _ _ _ ⟨rk,M,qs,g,cap,j,hI,rfl,hmu,rfl,rfl,rfl⟩;refine .seqB (x:=sb Hx 240) (y:=sb Hx 241) (by kernel_rfl) ?_;rcases List.eq_nil_or_concat qs with rfl | ⟨qs,q,rfl⟩
 refine .seqB (x:=sb Hx 480) (y:=sb Hx 481) (by kernel_rfl) ?_;refine arB false 0 rfl (λf h13 hf=>.inl ⟨rfl,?_⟩);refine .mG false (x:=sb Hx 962) (y:=sb Hx 963) (q:=.tmp 13) (by kernel_rfl) h13 ?_;rw[if_neg (by decide),show sb Hx 963=.exit 0 by kernel_rfl];exact .wk hf (.exit (.inr ⟨(by intro h;cases h),.inr ⟨(by intro h;cases h),h rk M g cap _ hI⟩⟩));rw[List.concat_eq_append] at hI hmu ⊢;have hqm:(qs++[q]).map (·.1)=qs.map (·.1)++[q.1]:=by rw[bjS];rfl
 have hlen:=atK (qs++[q]);rw[V5,bfG] at hlen;refine .Vl (x:=sb Hx 480) (y:=sb Hx 481) (by kernel_rfl) ?_;refine arB true _ (bbW (by rw[hqm,V5,bfG];omega)) (λf h13 hf=>⟨rfl,?_⟩);refine .mG true (x:=sb Hx 962) (y:=sb Hx 963) (q:=.tmp 13) (by kernel_rfl) h13 ?_;rw[if_pos rfl,show sb Hx 962=.skip by kernel_rfl];refine .skip (.inl ⟨rfl,.wk hf ?_⟩);rw[show sb Hx 241=.block 1 (sb Hx 482) by kernel_rfl,hqm];refine .block ?_;obtain⟨rk2,M2,hI2,hM2,hid,hL,cs,bJ,Yz,hH⟩:=asB hI;have hmq:mu (qs++[q])=mu qs+(1+cL q.2):=by rw[rK];simp[mu]
 have hLc:=anV q.2;have hql:=atK qs;refine aZF (by rw[bjC];omega) ?_;refine azJ hid bJ Yz hL (by omega) ?_;refine aRA hid (fR bJ) (bjT (abH.1 Yz).1) (λx hx=>((MM x).1 (hI.small q (by simp) x hx)).1) (by rw[bjC];omega) (λg' cap' j'=>.inl ⟨rfl,mu (qs++kQ (3+M.length) q.2 q.2.length),agL q.2 (3+M.length),rk2,M2,qs++kQ (3+M.length) q.2 q.2.length,g',cap',j',hI2,rfl,?_,?_,?_,?_⟩);have:=agL (qs:=qs) (p:=q.1) q.2 (3+M.length);have:mu (qs++[(q.1,q.2)])<=99999999:=hmu;omega;rw[bjS,abZ];rw[hH,hM2];rfl;rw[bjS,abZ]
def dN:(P.underlying 29).map O8=some true:=by kernel_rfl
def sN:(P.info? 29).map (·.size)=some 11:=by kernel_rfl
def awO{n:Nd}(hc:cL [n]<=99999998)(hp:Vd n):Pure P (G mx) 24 [.agg (CW n)] (.agg (CW (DO n))):=by
 refine aZH Hd.mixed Hd.Wm Tryz.func24 b24 (λb B w0 hB=>?_) (Hj (GG.plG n) rfl) (GG.plG (DO n));refine .Vl (x:=sb Hx 2) (y:=sb Hx 3) (by kernel_rfl) ?_;refine .run Hd.mixed E0.GY [] (e:=.normal) (fr2:=fr 72 [(1,.ptr 0 0),(2,.ptr 1 0)] [13,36,61] [undef,undef,undef]) (s2:=⟨[(1,a1),(0,.cells (CW n))],2,[],0⟩) (by kernel_rfl) (by intro v h;cases h) ⟨rfl,?_⟩;refine .Vl (x:=sb Hx 6) (y:=sb Hx 7) (by kernel_rfl) ?_;refine .run Hd.mixed E0.GY [] (e:=.normal) (fr2:=fr 72 [(2,.ptr 1 0),(3,.ptr 2 0)] [13,36,61] [undef,undef,undef]) (s2:=⟨[(2,.cells [.sl .full 1 (CW n)]),(1,a1),(0,.cells (CW n))],3,[],0⟩) (by kernel_rfl) (by intro v h;cases h) ⟨rfl,?_⟩;refine .acW (id:=2) (b2:=.cells [rkC n none]) rfl (λcx w o ho=>?_) ?_
 · have e:BC [n]=CW n:=by rw[MK];exact bcB _
   cases ho with
   | GA ext h1 =>
     refine .GA ext ?_;cases h1 with
     | cons h1 t =>
       refine .cons ?_ t;show Rp cx w (.sl .lost 1 (BC [n])) _;rw[e];cases h1 with
       | K6 hn hc _=>exact .K6 hn hc trivial
 show WE P (G mx) _ (sb Hx 7) _ ⟨HH none n [],3,[],0⟩ _;refine .Vl (x:=sb Hx 14) (y:=sb Hx 15) (by kernel_rfl) ?_;have hr:Uo (sb Hx 14) 2=true:=by kernel_rfl
 refine .reg hr ?_;show Rj P (G mx) _ _ [0,1] _ _ _;refine .begin hr (by decide) (t:=88) (e:=87) (x:=.tmp 3) (id:=2) (off:=0) (by kernel_rfl) uP (by kernel_rfl) (by kernel_rfl) (λg=>?_);refine .q Hd.mixed Ei.GY hr (by decide) (.raw (some ⟨g,0,none⟩) 1 1) (by kernel_rfl) (by kernel_rfl) ?_;refine .nil ⟨rfl,.wk (fr2:=FOs g 1 1 [undef,undef,undef]) (by kernel_rfl) ?_⟩;refine .Vl (x:=sb Hx 30) (y:=sb Hx 31) (by kernel_rfl) ?_;refine aCM hc hp (λrk M g cap j hI=>⟨rfl,?_⟩);cases rk with
 | none=>exact absurd (hI.all.1 rfl) (by simp)
 | some c =>
   obtain⟨i,l,rfl,hl,hf⟩:=hI.root c rfl
   obtain⟨k,rfl⟩:∃k,l=[(zN n,k)]:=by
     cases l with
     | nil=>cases hf
     | cons p l =>
       cases l with
       | cons _ _=>simp at hf
       | nil =>
         obtain⟨m,k⟩:=p;simp at hf;exact⟨k,by rw[hf]⟩
   have ho:(wT (zN n,k)).all one=true:=by cases k<;>rfl
   refine .seqB (x:=sb Hx 62) (y:=sb Hx 63) (by kernel_rfl) ?_;refine .run Hd.mixed Ei.GY [acR (x:=AI.look 2 (HH (some (3+i)) n M)) (b:=.cells [.msl (3+i) 0 1]) (off:=0) (v:=.msl (3+i) 0 1) (mB dL sL rfl) (aeD (by decide)),Fi (aIT (id:=3+i) (n:=1) (i:=0) (by decide)),acR (x:=AI.look (3+i) (HH (some (3+i)) n M)) (off:=0+0*11) (v:=.agg (wT (zN n,k))) (yA bR dN sN (l:=[(zN n,k)]) rfl) (amW hl),aCY (x:=AI.look 1 (HH (some (3+i)) n M)) (b:=a1) (off:=0) (v:=.agg (wT (zN n,k))) (stA sN rfl rfl ho) (aeD (by decide))] (e:=.normal) (fr2:=FOs g 0 cap j) (s2:=⟨Ta 1 (.cells (wT (zN n,k))) (HH (some (3+i)) n M),3+M.length,[],0⟩) (by kernel_rfl) (by intro v h;cases h) (.inl ⟨rfl,?_⟩);rw[show sb Hx 63=.ret by kernel_rfl];have bdT:AI.look 1 (HH (some (3+i)) n M)=some a1:=aeD (by decide);refine λcx w a K hE hs hf hd hK=>wp_ret (hK .ret _ _ _ ⟨.inr rfl,Ei.fin hB,.agg (wT (zN n,k)),bbF (a:=.ptr 1 0) (t:=2) (ty:=29) (by kernel_rfl) (by kernel_rfl) ?_,ajY hI (λi2 l2 h2=>?_) hl⟩ cx w a _ hE hs hd ⟨rfl,hf⟩)
   have hg:AS.get ⟨Ta 1 (.cells (wT (zN n,k))) (HH (some (3+i)) n M),3+M.length,[],0⟩ 1=some (.cells (rows wT [(zN n,k)])):=by
     show AI.look 1 (Ta 1 _ _)=_;rw[fR bdT];rw[show rows wT [(zN n,k)]=wT (zN n,k) from bcB _]
   have:=yA (P:=P) (G:=(G mx)) bR dN sN (l:=[(zN n,k)]) (i:=0) (x:=(zN n,k)) rfl _ _ hg;simpa using this
   show AI.look (3+i2) (Ta 1 _ _)=_;rw[IQ (by omega)];exact amW h2
end
open Classical in
def GI(n:Nd):Option Nd:=if cL [n]<=99999998/\Vd n then some (DO n) else none
def Qy{n:Nd}{yR:Nd}(h:GI n=some yR):Pure P (G mx) 24 [.agg (CW n)] (.agg (CW yR)):=by
 unfold GI at h;split at h;rename_i hc;cases h;exact awO hc.1 hc.2;cases h
end Mo
end Go.Proofs.YtpbkhogolfegfaaGreatDoor
namespace Go.Proofs.YtpbkhogolfegfaaGreatDoor
open AI Go Go.RowKit LexS
namespace Mo
variable {mx:Int}
def bgR{cx:Cx}{w:World}{s:AS}(h:St (G mx) cx w s):Od w:=by
 refine⟨λi hi=>?_,λj v hj=>?_⟩;have hc:=h.Mr 3 Hd.azK rfl;have he:Hd.azK[i]?=some (.sc (.int .u8 (KX i:Nat))):=by simp[Hd.azK,hi]
 obtain⟨v,hv,hr⟩:=hc.get he;cases hr;have:=hv.2.2;rwa[bcD] at this;have hc:=h.Mr 0 Hd.aEX rfl;have hj':(Fw.map λy=>Value.string ⟨y.toArray⟩)[j]?=some v:=by simpa[IC] using hj
 rw[biU] at hj';obtain⟨y,hy,rfl⟩:=Option.map_eq_some_iff.1 hj';have he:Hd.aEX[j]?=some (Gz y):=by simp[Hd.aEX,hy]
 obtain⟨u,hu,hr⟩:=hc.get he;unfold Gz at hr;cases hr;have:=hu.2.2;rwa[bcD] at this
def UH{w w':World}(h:Below w.heap.size w w'):Tv w w' (λ_=>False):=⟨h.os,h.tape,h.output,h.size,λk hk _=>h.block k hk⟩
def ajR(w:World)(e:TypeId)(s:ByteArray):Tv w (Lib.bytesWorld w e s) (λ_=>False) :=
 UH (Lib.below_freeze ((Below.drew (Below.refl _ w)).alloc (aOC _) _) (p:=⟨w.heap.size,_,Option.none⟩) (aOC _) 1)
def JV(x:LexS.Tok):Tk:=⟨x.1,⟨x.2.1.toArray⟩,x.2.2⟩
def aFL(l:List LexS.Tok):(rows OT (l.map JV)).length=(KS l).length:=by
 unfold KS
 induction l with
 | nil=>rfl
 | cons x l ih=>rw[bjM,Fv,bjZ,V5,V5,ih];rfl
def aTK(cx:Cx)(w:World)(l:List LexS.Tok):Cv cx w (rows OT (l.map JV)) (KS l):=by
 unfold KS
 induction l with
 | nil=>exact .nil
 | cons x l ih =>
   rw[bjM,Fv,bjZ];exact Cv.append (.cons (.sc rfl) (.cons (.sc rfl) (.cons (.sc rfl) .nil))) ih
def Hf(s:ByteArray):Option (List Tk×Int×Int):=some ((Mf s.data.toList).1.map JV,(((Mf s.data.toList).2.1:Nat):Int),(((Mf s.data.toList).2.2:Nat):Int))
def XE{s:ByteArray}{yR:List Tk×Int×Int}(h:Hf s=some yR):Pure P (G mx) 34 [.sc (.string s)] (.E9 [.sl .lost yR.1.length (rows OT yR.1),.sc (.int .i64 yR.2.1),.sc (.int .i64 yR.2.2)]):=by
 cases h;intro s0 cx w vs hs ha;cases ha with
 | cons h1 tl =>
 cases tl;cases h1;refine(aBN s w (bgR hs)).mono ?_;rintro e w' ⟨u,rfl,QX,hb⟩;obtain⟨x,st⟩:=hs.same (UH hb);refine⟨cx,x,st,_,rfl,?_⟩;show Rp cx w' (.E9 [.sl .lost ((Mf (L s)).1.map JV).length (rows OT ((Mf (L s)).1.map JV)),.sc (.int .i64 (Mf (L s)).2.1),.sc (.int .i64 (Mf (L s)).2.2)]) _;refine .E9 (vs:=[u,.int .i64 (Mf (L s)).2.1,.int .i64 (Mf (L s)).2.2]) (.cons ?_ (.cons (.sc rfl) (.cons (.sc rfl) .nil)));have hl:=aFL (Mf (L s)).1;have hc:=aTK cx w' (Mf (L s)).1;rw[bjC];obtain⟨h1,⟨rfl,h2⟩ | ⟨g,cap,cur,rfl,hg,hw,hn,_,hsz,htk⟩⟩:=QX;have:(Mf (L s)).1=[]:=biP h2;rw[this];exact .sl0 trivial;refine .K6 hn (A1.Qw hc (λi v hi=>⟨(Array.getElem?_eq_some_iff.1 hw).1,λGr=>?_,?_⟩)) trivial;have:g < w.heap.size:=hs.WB Gr;omega;rw[bcD,cell_of_row w' g i cur _ _ hw];rw[<- htk,List.getElem?_take] at hi;split at hi;rwa[Array.getElem?_toList] at hi;cases hi
def OY(s:ByteArray):Option (Int×Unit):=if s.data.toList.length<=18 then (Lib.atoi s.data.toList).map λn=>(n,()) else none
def aeL{s:ByteArray}{yR:Int×Unit}(h:OY s=some yR):Pure P (G mx) 173 [.sc (.string s)] (.E9 [.sc (.int .i64 yR.1),.sc .nilIface]):=by
 unfold OY at h;split at h
 · rename_i hl
   cases hn:Lib.atoi s.data.toList with
   | none=>rw[hn] at h;cases h
   | some n =>
     rw[hn] at h;cases h;intro s0 cx w vs hs ha;cases ha with
     | cons h1 tl =>
     cases tl;cases h1;refine(Tryz.strconv_Atoi s n (by show s.data.size<=18;rw[<- Array.length_toList];exact hl) hn w).mono ?_;rintro e w' ⟨rfl,tt,rfl⟩;obtain⟨x,st⟩:=hs.same (ajR w _ tt);exact⟨cx,x,st,_,rfl,.E9 (vs:=[.int .i64 n,.nilIface]) (.cons (.sc rfl) (.cons (.sc rfl) .nil))⟩
 cases h
def Lj(t o n:ByteArray)(k:Int):Option ByteArray:=if 1<=o.size/\t.size+Lib.countB t o*n.size<=4000 then some ⟨(Lib.replace t.data.toList o.data.toList n.data.toList k).toArray⟩ else none
def rZ{t o n:ByteArray}{k:Int}{yR:ByteArray}(h:Lj t o n k=some yR):Pure P (G mx) 163 [.sc (.string t),.sc (.string o),.sc (.string n),.sc (.int .i64 k)] (.sc (.string yR)):=by
 unfold Lj at h;split at h
 · rename_i hl
   cases h;intro s0 cx w vs hs ha;cases ha with
   | cons a1 tl =>
   cases tl with
   | cons a2 tl =>
   cases tl with
   | cons a3 tl =>
   cases tl with
   | cons a4 tl =>
   cases tl;cases a1;cases a2;cases a3;cases a4
   have hm:w.cell? ⟨5,0,none⟩=some (.int .i64 mx):=by
     have hg:=hs.Mr 5 [Hd.int mx] rfl;obtain⟨v,hv,hr⟩:=hg.get (i:=0) rfl;unfold Hd.int at hr;cases hr;exact hv.2.2
   refine(Tryz.strings_Replace t o n k mx w (by omega) hm hl.1 (by omega)).mono ?_;rintro e w' ⟨rfl,hb⟩;obtain⟨x,st⟩:=hs.same (UH hb);exact⟨cx,x,st,_,rfl,.sc rfl⟩
 cases h
def axN:Nd⊕Dg->Nd×Dg×Bool
 | .inl n=>(n,⟨0,0⟩,true)
 | .inr d=>(⟨0,V4,V4,0,0,0,0,⟨0,[]⟩,[],0⟩,d,false)
end Mo
end Go.Proofs.YtpbkhogolfegfaaGreatDoor

