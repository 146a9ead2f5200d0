/- The frame of the laws: from the walk to the row; messages and points that came in. -/
import Derived.Test.YtepbbaifpckcpaaGreatDoorPTa
open Go.Proofs.Tryz
namespace Go.Proofs.YtepbbaifpckcpaaGreatDoor.frame
open Go.Joins Go.ChangeShapes Go.WideShapes Go.ChangeAt Go.RowKit Go.Deep
open Go.ChangeMaps (open_string shut_string)
theorem own:ownKnob prog.godebug=none:=by kernel_rfl
section
variable {H : Type} {enc : TypeId × Value → H} {P : Program}
theorem post_of_below{f:Func}{s:ChangeSpec}{apart fresh handsOn again:Bool}{W W':World}{args:Array Value}{v:Value}{ds gs:List (DataW H)}{before pa pv:List MemPlace}
    (hW:DataW.Whole enc P f.params.toList s.vars apart W args.toList ds gs before)
    (hres:∀(b:Nat) (sp:Nat→Bool) (hd:Bool),DataW.TrodAll enc P W' b sp hd f.resultTypes.toList (v.resultList f.resultTypes.size) (s.fn H (ds++gs)).results [])
    (hargs:∀sp:Nat→Bool,(∀p∈before,sp p.block=true)→DataW.TrodAll enc P W' 0 sp true f.params.toList args.toList (s.fn H (ds++gs)).args pa)
    (hvars:∀sp:Nat→Bool,(∀p∈before,sp p.block=true)→DataW.TrodVars enc P W' sp s.vars (s.fn H (ds++gs)).vars pv)
    (hps:before=pa++pv) (hb:Below W.heap.size W W')
    (hok:∀(j:Nat) (t:TypeId) (r:Value),f.resultTypes[j]? =some t→(v.resultList f.resultTypes.size)[j]? =some r→Value.okWide P W' .any 0 t r) :
    s.post enc P f apart fresh handsOn again W args v W':=by
 have low:∀p∈before,p.block<W.heap.size:=fun p hp=>hW.lt p hp
 have old:∀p∈before,(fun b=>decide (b<W.heap.size)) p.block=true:=fun p hp=>by simpa using low p hp
 refine⟨ds,gs,before,[],pa,pv,hW,hres _ _ _,hargs _ old,hvars _ old,World.keptBut_mono (fun p hp=>⟨hp,.inr (by rw[hps,di]at hp;exact hp)⟩) (hb.frame (· ∈before)),fun _=> ?_⟩;obtain⟨_,_,_,_,_,hz,hn⟩:=hW;refine⟨hok,_,_,([]++pa)++pv,⟨[]++pa,pv,trodAll_append (hargs _ (fun _ _=>rfl)) (hres _ _ _),hvars _ (fun _ _=>rfl),rfl,?_,?_⟩,?_⟩
 · intro b off hp;have hin:MemPlace.cell b off∈before:=by rw[hps];simpa using hp
   rw[hb.frozen (low _ hin)];exact hz b off hin
 · intro ha;have:=hn ha;rw[hps]at this;simpa using this
 · intro p hp _;rw[hps];simpa using hp
end
section
variable {H : Type} {enc : TypeId × Value → H} {P : Program} {w w' : World} {base : Nat} {spare : Nat → Bool} {held : Bool}
theorem zcY:∀{ts:List TypeId} {vs:List Value} {ds:List (DataW H)} {ps:List MemPlace},DataW.TrodAll enc P w base spare held ts vs ds ps→(∀p∈ps,w.sameAt w' p)→DataW.TrodAll enc P w' base spare held ts vs ds ps
 | [],vs,ds,ps,h,_=>by
  obtain⟨rfl,rfl,rfl⟩:=trodAll_nil h
  exact trodAll_mk0
 |t::ts,vs,ds,ps,h,hs=>by
  obtain⟨v,vs',d,ds',p,p',rfl,rfl,rfl,h1,h2⟩:=trodAll_cons h
  obtain⟨n,hn⟩:=h1
  exact trodAll_cons_mk ⟨n,DataW.trod_carry n _ _ _ hn (fun q hq=>hs q (List.mem_append_left _ hq))⟩ (zcY h2 (fun q hq=>hs q (List.mem_append_right _ hq)))
end
section
variable {H : Type} {enc : TypeId × Value → H} {P : Program} {T : TypeId → Prop}
theorem post_true{f:Func}{s:ChangeSpec}{W W':World}{args:Array Value}{ds:List (DataW H)}{before:List MemPlace}(K:Kids P T)(hz:∀t e,T t→P.underlying t=some (.slice e)→0<P.cellsOf e)
    (hv:s.vars=[]) (hT:∀t∈f.params.toList,T t) (hr:f.resultTypes=#[4]) (hbool:P.underlying 4=some .bool) (hs:s.fn H (ds++ [])={results:=[.lit (.bool true)],args:=ds})
    (hW:DataW.Whole enc P f.params.toList s.vars false W args.toList ds [] before) (hb:Below W.heap.size W W') :
    s.post enc P f false true false false W args (.bool true) W':=by
 have hW':=hW;obtain⟨p,q,hA,hV,rfl,hfz,hnd⟩:=hW;rw[hv]at hV;obtain⟨-,rfl⟩:=trodVars_none hV;simp only[bE]at hW';have hlt:∀x∈p,x.block<W.heap.size:=fun x hx=>hW'.lt x hx
 have hA':DataW.TrodAll enc P W' 0 (fun _=>true) true f.params.toList args.toList ds p:=zcY hA (fun x hx=>hb.same (hlt x hx));refine post_of_below (pa:=p) (pv:=[]) hW' (fun _ _ _=> ?_) (fun sp hsp=> ?_) (fun _ _=> ?_) jc hb ?_
 · rw[hs,hr];exact trodAll_cons_mk (shut_bool hbool _) trodAll_mk0
 · rw[hs];exact DataW.TrodAll.respare K hz hT hA' hsp
 · rw[hv,hs];rfl
 · exact ok_one (t:=4) hr rfl (okWide_bool_mk hbool _)
end
theorem kids:Kids prog (· <prog.types.size):=kids_rows jb jb
theorem full:∀t e,t<prog.types.size→prog.underlying t=some (.slice e)→0<prog.cellsOf e:=slices_full_of prog jb
section
variable {H : Type} {enc : TypeId × Value → H} {W : World}
end
section
variable {H : Type} {enc : TypeId × Value → H} {W : World}
end
section
variable {H : Type} {enc : TypeId × Value → H} {W : World}
end
end Go.Proofs.YtepbbaifpckcpaaGreatDoor.frame
namespace Go.Proofs.YtepbbaifpckcpaaGreatDoor.frame
set_option maxRecDepth 100000
open Go.Joins Go.ChangeShapes Go.WideShapes Go.ChangeAt Go.RowKit Go.Deep
theorem star: "*"++ "errors.errorString"= "*errors.errorString":=by decide
theorem rowErr(u:TypeId)(h:prog.typeName? 3 u=some "*errors.errorString"):u=306:=
 typeName_ptr_named (nm:= "errors.errorString") (by rw[star];kernel_rfl) jb jf u (by rw[star];exact h)
section
open Go.WideElems
theorem words_of_laid{W:World}(h:laidMet prog [("sederunt/trace.words",Rows.laid_sederunt_trace_words)] W):∃b n,W.cell? ⟨0,0,none⟩=some (.map (some b))∧W.ownsMap prog 3 (plainElem prog 9) b n zaI:=by
 obtain⟨ps,⟨g',t',cs,fuel,p,q,hg',ht',hvar,hd,_,_⟩,_⟩:=h;have hg:prog.globalNamed "sederunt/trace.words"=some 0:=by kernel_rfl
 have hty:(prog.globals[0]?).map (·.type)=some 90:=by kernel_rfl
 obtain rfl:=dW (hg.symm.trans hg');obtain rfl:=dW (hty.symm.trans ht');rcases open_map underlying90 hd with⟨_,hx⟩|⟨b,es,clock,n,_,hcs,hb,_,F,hx⟩
 · simp only[aI]at hx;exact absurd hx.1 (by simp[Rows.laid_sederunt_trace_words])
 · simp only[aI]at hx;have hown:=World.ownsMap_of_fit (R:=plainElem prog 9) hb F (fun x _ z hz=>elemAt_plainElem_string underlying9 hz);rw[←hx.1]at hown;have hl:(Rows.laid_sederunt_trace_words:DataW Unit)=zaI:=rfl;rw[hl]at hown;refine⟨b,es.size,?_,hown⟩;have h0:=iB hg hvar 0;rw[←Array.getElem?_toList,hcs]at h0;simpa using h0
end
theorem env_of_laid{W:World}(h:laidMetH prog Rows.traceValidUptoRow.laid W)(hsh:W.ShapedOpen prog):Env W where
 pow:=by
  have h2:=h.filter (fun x=>x.1 == "internal/strconv.uint64pow10")
  rw[fF _ _ _ jb]at h2;exact Lib.tabIs_of_head (rest:=[]) (t:=276) (e:=144) (n:=20) (g:=2) jb jb jb jb jb jb h2
 syn:=by
  have h2:=h.filter (fun x=>x.1 == "strconv.ErrSyntax")
  rw[fF _ _ _ jb]at h2;have hg:prog.globalNamed "strconv.ErrSyntax"=some 5:=by kernel_rfl
  obtain⟨a0,s0,hv0,_⟩:=laid_sentinel (r:=[]) h2 hg jb underlying79 rowErr underlying306 underlying308 rfl rfl underlying9 jb jb;exact⟨_,_,by have h0:=iB hg hv0 0;simpa using h0⟩
 rng:=by
  have h2:=h.filter (fun x=>x.1 == "strconv.ErrRange")
  rw[fF _ _ _ jb]at h2;have hg:prog.globalNamed "strconv.ErrRange"=some 6:=by kernel_rfl
  obtain⟨a0,s0,hv0,_⟩:=laid_sentinel (r:=[]) h2 hg jb underlying79 rowErr underlying306 underlying308 rfl rfl underlying9 jb jb;exact⟨_,_,by have h0:=iB hg hv0 0;simpa using h0⟩
 mx:=Go.Proofs.cell_of_shapedOpen_int (zero:=#[()]) (t:=3) hsh (az jb) jb rfl jb jb underlying3;words:=by
  have h2:=h.filter (fun x=>x.1 == "sederunt/trace.words");rw[fF _ _ _ jb]at h2;exact words_of_laid h2
def lay(cs:Array Value):Obj→Obj
 | .cells _ t frozen=> .cells cs t frozen
 |o=>o
def intsOf:DataW Unit→Array Value
 | .agg l=>(l.map fun| .lit (.int k z)=>Value.int k z|_=>Value.bool false).toArray
 |_=>#[]
def pairsOf:DataW Unit→Array Value
 | .agg l=>(l.flatMap fun| .agg m=>m.map (fun| .lit (.int k z)=>Value.int k z|_=>Value.bool false)|_=> []).toArray
 |_=>#[]
def entsOf:DataW Unit→Array MapEntry
 | .map l=>(l.zipIdx.map fun|((.int k z,.lit (.string s)),i)=>(⟨.int k z,s,i⟩:MapEntry)|_=>⟨.bool false,false,0⟩).toArray
 |_=>#[]
def synS:ByteArray:={data:=#[105,110,118,97,108,105,100,32,115,121,110,116,97,120]}
def rngS:ByteArray:={data:=#[118,97,108,117,101,32,111,117,116,32,111,102,32,114,97,110,103,101]}
noncomputable def low:Nat:=(World.holding prog default ⟨#[],#[],[]⟩).heap.size
noncomputable def base0(os:Os):World:=World.holding prog os ⟨#[.cells #[synS] 308,.cells #[rngS] 308,.map (entsOf Rows.laid_sederunt_trace_words) 8],#[],[]⟩
noncomputable def ze7(os:Os):World:=
 { base0 os with heap := ((((((((base0 os).heap.modify 5 (lay #[.iface 306 (.pointer (some ⟨low, 0, none⟩))])).modify 6 (lay #[.iface 306 (.pointer (some ⟨low + 1, 0, none⟩))])).modify
     0 (lay #[.map (some (low+2))])).modify 2 (lay (intsOf Rows.laid_internal_strconv_uint64pow10))).modify 7 (lay (intsOf Rows.laid_math_bits_deBruijn32tab))).modify 8 (lay (intsOf Rows.laid_math_bits_deBruijn64tab))).modify
     4 (lay (pairsOf Rows.laid_unicode_utf8_acceptRanges))).modify 3 (lay (intsOf Rows.laid_unicode_utf8_first))}
theorem laid_met(os:Os)(args:Array Value):laidMet prog Rows.traceValidUptoRow.laid ((ze7 os).forCall (fun _ _=>0) ⟨#[],args,[]⟩).memory:=
 laidMet_of_run' 8 jb jb
section
variable {H : Type} {enc : TypeId × Value → H} {W : World}
end
