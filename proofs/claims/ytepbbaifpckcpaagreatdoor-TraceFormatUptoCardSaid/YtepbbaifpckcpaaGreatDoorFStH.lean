/- The contract of the reference's Parse of operations. -/
import Derived.Test.YtepbbaifpckcpaaGreatDoorFFo
import Derived.Test.YtepbbaifpckcpaaGreatDoorFPl
import Derived.Test.YtepbbaifpckcpaaGreatDoorFStG
import Derived.Test.YtepbbaifpckcpaaGreatDoorFStE
namespace Go.Proofs.YtepbbaifpckcpaaGreatDoor
set_option maxRecDepth 100000
set_option maxHeartbeats 16000000
open Go.RowKit
theorem Zj {s:List UInt8} {r:List (List UInt8)} {k:Nat} (h1:1≤k) (h6:k≤6) (h:cut s=zn k::r):kindOk k s=(zO k (zH r) (zI k r) (zA k r) &&(yo k (zH r) (zI k r) (zA k r) == s)):=(ref_kind h1 h6 h).symm
theorem zaK {s:List UInt8} {x:List UInt8} {r:List (List UInt8)} {k m:Nat} (h:cut s=x::r) (hm:s.length≤m) (hm2:m≤300000):(zH r).length+(zI k r).length+(zA k r).length≤1048576:=by
 have hl:∀y∈r,y.length≤m:=fun y hy=>Nat.le_trans (cut_len s y (by rw [h];exact List.mem_cons_of_mem _ hy)) hm
 have hd:∀t:List (List UInt8),(∀y∈t,y.length≤m)→(t.headD []).length≤m:=fun t ht=>by
  cases t with
  |nil=>simp
  |cons a u=>exact ht a jd
 have h1:(zH r).length≤m:=hd r hl;have ht:∀y∈r.tail,y.length≤m:=fun y hy=>hl y (List.mem_of_mem_tail hy)
 have htt:∀y∈r.tail.tail,y.length≤m:=fun y hy=>ht y (List.mem_of_mem_tail hy)
 have h2:(zI k r).length≤m:=by
  unfold zI;split
  · exact hd _ ht
  · simp
 have h3:(zA k r).length≤m:=by
  unfold zA;split
  · exact hd _ htt
  · exact hd _ ht
 omega
theorem refParse_any (s:ByteArray) (w:World) (hs:s.size≤300000):Calls Tryz.prog 103 #[.string s] w (RetPar (opOk s.data.toList) w):=by
 obtain⟨x,r,hcut⟩:=zdH s.data.toList;have HCx:=hD hcut;have HSp:Hid (∀W,Calls Tryz.prog 146 #[.string s] W (za7 (x::r) W)):=hD (fun W=>by rw [←hcut];exact refSplit_any s W ja);have HLen:Hid (s.data.toList.length≤300000):=hD (by simpa using hs);have hss:(300000:Nat)≤300000:=Nat.le_refl _;clear hcut;have HX2:=hD (Vr.new w [.int .i64 0, .string ⟨#[]⟩, .string ⟨#[]⟩, .string ⟨#[]⟩] 124);have HB:=hD (za w (.cells #[.int .i64 0, .string ⟨#[]⟩, .string ⟨#[]⟩, .string ⟨#[]⟩] 124));have HB2:Hid (w.heap.size≤w.heap.size):=hD (Nat.le_refl _);go_in;go_wp2_with fail;generalize w.alloc (.cells #[.int .i64 0, .string ⟨#[]⟩, .string ⟨#[]⟩, .string ⟨#[]⟩] 124)=w1 at HX2 HB⊢;generalize hb2:w.heap.size=b2 at HX2⊢;have HB2:Hid (w.heap.size≤b2):=hD (Nat.le_of_eq hb2);clear hb2;refine(HSp.out w1).mono ?_;rintro e w2 ⟨A,c,rfl,hrd,hs2⟩;have HX2:=hD (HX2.out.below hs2);have HB:=hD (bon HB.out hs2);have HR:=hD hrd;obtain⟨gw,ow,rfl,_,_⟩:=hrd.cells (by rw [zaV];simp);have HW:Hid (∀W,Rd W 1 (some ⟨gw,ow,none⟩) (x::r).length (strC (x::r))→World.cell? W ⟨gw,ow,none⟩=some (.string ⟨x.toArray⟩)∧∀j u,(strC (x::r))[j]? =some u→World.cell? W ⟨gw,ow+j,none⟩=some u):=hD (fun W h=>by
  obtain⟨b,o,e1,_,hc⟩:=h.cells (by rw [zaV];simp);simp only [Option.some.injEq,Addr.mk.injEq] at e1;obtain⟨rfl,rfl,_⟩:=e1;exact⟨hc 0 _ rfl,hc⟩)
 clear hrd hs2;generalize hm:(x::r).length=m;have HM:=hD hm;have hm0:0<m:=by rw [←hm];simp
 have hm0i:(0:Int) <(m:Int):=by omega
 clear hm;have HJ0:Hid (∀j,1≤j→j<1→kindOk j s.data.toList=false):=hD (fun j h1 h2=>by omega);go_wp2_with fail;go_loopw [5] (fun i wr=>∃k:Nat,i= .int .i64 k∧1≤k∧k≤7∧(∀j,1≤j→j<k→kindOk j s.data.toList=false)∧Vr wr b2 [.int .i64 0, .string ⟨#[]⟩, .string ⟨#[]⟩, .string ⟨#[]⟩]∧Rd wr 1 (some ⟨gw,ow,none⟩) (x::r).length (strC (x::r))∧Below w.heap.size w wr) (fun i _=>7-(intOf i).toNat)
 case atStart=>exact⟨1,rfl,by omega,by omega,HJ0.out,HX2.out,HR.out,HB.out⟩
 case round=>
  obtain⟨k,rfl,hk1,hk7,hj,hx2,hr,hb⟩:=hrel;have HJ:=hD hj;have HX2:=hD hx2;have HR:=hD hr;have HB:=hD hb;clear hj hx2 hr hb;by_cases hk6:k≤6
  · have i0:(k:Int)≤6:=by omega
    have i1:(0:Int)≤(k:Int):=by omega
    by_cases hxk:x=zn k
    · have HCut:Hid (cut s.data.toList=zn k::r):=hD (by rw [HCx.out,hxk]);have hne:(x == zn k)=true:=by simpa using hxk
      have hne2:(x != zn k)=false:=by simp [hxk]
      clear hxk;go_wp2_with fail;refine wp_region_noPanic ?_;have HX2:=hD (HX2.out.below (Below.refl _ _).drew);have HB:=hD (HB.out.drew);have HR:=hD (HR.out.below (Below.refl _ _).drew);generalize hv:wr.drew=v0 at HX2 HB HR;refine wp_region_held_drew (S:=fun W=>World.cell? W ⟨gw,ow,none⟩=some (.string ⟨x.toArray⟩)) jc (by rw [hv];exact((HW.out _ HR.out).1)) (fun hHeld=> ?_);rw [hv] at hHeld⊢;clear hv;refine takes [0,1,2,3] ?_;refine tkr 4 rfl (fun K hK=> ?_);go_simp;go_at_call 147;refine(zej k hk1 hk6 _).mono ?_;rintro e v1 ⟨rfl,hs⟩;have HX2:=hD (HX2.out.below hs);have HB:=hD (bon HB.out hs);have HR:=hD (HR.out.below hs);clear hs;go_wp2_with fail;refine hK.out _ _ ((HW.out _ HR.out).1) (fun hHeld=> ?_);clear hK K;try simp only [Act.put,qk1,qk2,qk3,qk4,qk5,qk6]
      refine takes [5] ?_;refine wpAnyH_done jc ?_ _;refine NoPanic.normal ?_;have hcell:=(HW.out _ HR.out).2;have hgl:gw<v1.heap.size:=by
       obtain⟨b,o,e1,hb,_⟩:=HR.out.cells (by rw [zaV];simp);simp only [Option.some.injEq,Addr.mk.injEq] at e1;obtain⟨rfl,rfl,_⟩:=e1;exact hb
      clear hne hne2;by_cases hk5:k=5
      · have k5:((k:Int) == 5)=true:=by simp;omega
        have k5n:((k:Int) != 5)=false:=by simp;omega
        have HK5:=hD hk5;clear hk5;rcases r with _|⟨a,_|⟨b,_|⟨c,t⟩⟩⟩
        · have hmm:m=1:=by have h:=HM.out;simp at h;omega
          have m1:¬((1:Int) <(m:Int)):=by omega
          have e1:¬(1<m):=by omega
          have m2:¬((2:Int) <(m:Int)):=by omega
          have e2:¬(2<m):=by omega
          have m3:¬((3:Int) <(m:Int)):=by omega
          have e3:¬(3<m):=by omega
          clear hmm;have HF6:=hD (Vr.new v1 [.int .i64 (k:Int), .string ⟨#[]⟩, .string ⟨#[]⟩, .string ⟨#[]⟩] 124);have HBg:=hD (za v1 (.cells #[.int .i64 (k:Int), .string ⟨#[]⟩, .string ⟨#[]⟩, .string ⟨#[]⟩] 124));have hl1:v1.heap.size<(v1.alloc (.cells #[.int .i64 (k:Int), .string ⟨#[]⟩, .string ⟨#[]⟩, .string ⟨#[]⟩] 124)).heap.size:=by simp
          go_upto_region 15 with fail;change Code.wp _ _ _ _ (v1.alloc (.cells #[.int .i64 (k:Int), .string ⟨#[]⟩, .string ⟨#[]⟩, .string ⟨#[]⟩] 124));clear hl1 m1 m2 m3 e1 e2 e3;have HX2:=hD (HX2.out.below HBg.out);have HR:=hD (HR.out.below HBg.out);have HB:=hD (bon HB.out HBg.out);have HX6:Hid (Vr (v1.alloc (.cells #[.int .i64 (k:Int), .string ⟨#[]⟩, .string ⟨#[]⟩, .string ⟨#[]⟩] 124)) v1.heap.size [.int .i64 (k:Int), .string ⟨(zH []).toArray⟩, .string ⟨(zI k []).toArray⟩, .string ⟨(zA k []).toArray⟩]):=hD (HF6.out.eq jbn);exact fo153
        · have w1:=hcell 1 _ rfl;have hmm:m=2:=by have h:=HM.out;simp at h;omega
          have m1:(1:Int) <(m:Int):=by omega
          have e1:1<m:=by omega
          have m2:¬((2:Int) <(m:Int)):=by omega
          have e2:¬(2<m):=by omega
          have m3:¬((3:Int) <(m:Int)):=by omega
          have e3:¬(3<m):=by omega
          clear hmm;have HF6:=hD (Vr.new v1 [.int .i64 (k:Int), .string ⟨a.toArray⟩, .string ⟨#[]⟩, .string ⟨#[]⟩] 124);have HBg:=hD (za v1 (.cells #[.int .i64 (k:Int), .string ⟨a.toArray⟩, .string ⟨#[]⟩, .string ⟨#[]⟩] 124));have hl1:v1.heap.size<(v1.alloc (.cells #[.int .i64 (k:Int), .string ⟨#[]⟩, .string ⟨#[]⟩, .string ⟨#[]⟩] 124)).heap.size:=by simp
          go_upto_region 15 with fail;change Code.wp _ _ _ _ (v1.alloc (.cells #[.int .i64 (k:Int), .string ⟨a.toArray⟩, .string ⟨#[]⟩, .string ⟨#[]⟩] 124));clear hl1 m1 m2 m3 e1 e2 e3 w1;have HX2:=hD (HX2.out.below HBg.out);have HR:=hD (HR.out.below HBg.out);have HB:=hD (bon HB.out HBg.out);have HX6:Hid (Vr (v1.alloc (.cells #[.int .i64 (k:Int), .string ⟨a.toArray⟩, .string ⟨#[]⟩, .string ⟨#[]⟩] 124)) v1.heap.size [.int .i64 (k:Int), .string ⟨(zH [a]).toArray⟩, .string ⟨(zI k [a]).toArray⟩, .string ⟨(zA k [a]).toArray⟩]):=hD (HF6.out.eq jbn);exact fo152
        · have w1:=hcell 1 _ rfl;have w2:=hcell 2 _ rfl;have hmm:m=3:=by have h:=HM.out;simp at h;omega
          have m1:(1:Int) <(m:Int):=by omega
          have e1:1<m:=by omega
          have m2:(2:Int) <(m:Int):=by omega
          have e2:2<m:=by omega
          have m3:¬((3:Int) <(m:Int)):=by omega
          have e3:¬(3<m):=by omega
          clear hmm;have HF6:=hD (Vr.new v1 [.int .i64 (k:Int), .string ⟨a.toArray⟩, .string ⟨b.toArray⟩, .string ⟨#[]⟩] 124);have HBg:=hD (za v1 (.cells #[.int .i64 (k:Int), .string ⟨a.toArray⟩, .string ⟨b.toArray⟩, .string ⟨#[]⟩] 124));have hl1:v1.heap.size<(v1.alloc (.cells #[.int .i64 (k:Int), .string ⟨#[]⟩, .string ⟨#[]⟩, .string ⟨#[]⟩] 124)).heap.size:=by simp
          go_upto_region 15 with fail;change Code.wp _ _ _ _ (v1.alloc (.cells #[.int .i64 (k:Int), .string ⟨a.toArray⟩, .string ⟨b.toArray⟩, .string ⟨#[]⟩] 124));clear hl1 m1 m2 m3 e1 e2 e3 w1 w2;have HX2:=hD (HX2.out.below HBg.out);have HR:=hD (HR.out.below HBg.out);have HB:=hD (bon HB.out HBg.out);have HX6:Hid (Vr (v1.alloc (.cells #[.int .i64 (k:Int), .string ⟨a.toArray⟩, .string ⟨b.toArray⟩, .string ⟨#[]⟩] 124)) v1.heap.size [.int .i64 (k:Int), .string ⟨(zH [a,b]).toArray⟩, .string ⟨(zI k [a,b]).toArray⟩, .string ⟨(zA k [a,b]).toArray⟩]):=hD (HF6.out.eq jbn);have HSz:Hid ((zH [a,b]).length+(zI k [a,b]).length+(zA k [a,b]).length≤1048576):=hD (zaK HCut.out HLen.out hss);clear HF6 HBg;generalize (v1.alloc (.cells #[.int .i64 (k:Int), .string ⟨a.toArray⟩, .string ⟨b.toArray⟩, .string ⟨#[]⟩] 124))=wv at HX2 HR HB HX6⊢;exact fo155
        · have w1:=hcell 1 _ rfl;have w2:=hcell 2 _ rfl;have w3:=hcell 3 _ rfl;have hmm:4≤m:=by have h:=HM.out;simp at h;omega
          have m1:(1:Int) <(m:Int):=by omega
          have e1:1<m:=by omega
          have m2:(2:Int) <(m:Int):=by omega
          have e2:2<m:=by omega
          have m3:(3:Int) <(m:Int):=by omega
          have e3:3<m:=by omega
          clear hmm;have HF6:=hD (Vr.new v1 [.int .i64 (k:Int), .string ⟨a.toArray⟩, .string ⟨b.toArray⟩, .string ⟨c.toArray⟩] 124);have HBg:=hD (za v1 (.cells #[.int .i64 (k:Int), .string ⟨a.toArray⟩, .string ⟨b.toArray⟩, .string ⟨c.toArray⟩] 124));have hl1:v1.heap.size<(v1.alloc (.cells #[.int .i64 (k:Int), .string ⟨#[]⟩, .string ⟨#[]⟩, .string ⟨#[]⟩] 124)).heap.size:=by simp
          go_upto_region 15 with fail;change Code.wp _ _ _ _ (v1.alloc (.cells #[.int .i64 (k:Int), .string ⟨a.toArray⟩, .string ⟨b.toArray⟩, .string ⟨c.toArray⟩] 124));clear hl1 m1 m2 m3 e1 e2 e3 w1 w2 w3;have HX2:=hD (HX2.out.below HBg.out);have HR:=hD (HR.out.below HBg.out);have HB:=hD (bon HB.out HBg.out);have HX6:Hid (Vr (v1.alloc (.cells #[.int .i64 (k:Int), .string ⟨a.toArray⟩, .string ⟨b.toArray⟩, .string ⟨c.toArray⟩] 124)) v1.heap.size [.int .i64 (k:Int), .string ⟨(zH (a::b::c::t)).toArray⟩, .string ⟨(zI k (a::b::c::t)).toArray⟩, .string ⟨(zA k (a::b::c::t)).toArray⟩]):=hD (HF6.out.eq jbn);have HSz:Hid ((zH (a::b::c::t)).length+(zI k (a::b::c::t)).length+(zA k (a::b::c::t)).length≤1048576):=hD (zaK HCut.out HLen.out hss);clear HF6 HBg;generalize (v1.alloc (.cells #[.int .i64 (k:Int), .string ⟨a.toArray⟩, .string ⟨b.toArray⟩, .string ⟨c.toArray⟩] 124))=wv at HX2 HR HB HX6⊢;exact fo154
      · have k5:((k:Int) == 5)=false:=by simp;omega
        have k5n:((k:Int) != 5)=true:=by simp;omega
        have HK5:=hD hk5;clear hk5;rcases r with _|⟨a,_|⟨b,_|⟨c,t⟩⟩⟩
        · have hmm:m=1:=by have h:=HM.out;simp at h;omega
          have m1:¬((1:Int) <(m:Int)):=by omega
          have e1:¬(1<m):=by omega
          have m2:¬((2:Int) <(m:Int)):=by omega
          have e2:¬(2<m):=by omega
          have m3:¬((3:Int) <(m:Int)):=by omega
          have e3:¬(3<m):=by omega
          clear hmm;have HF6:=hD (Vr.new v1 [.int .i64 (k:Int), .string ⟨#[]⟩, .string ⟨#[]⟩, .string ⟨#[]⟩] 124);have HBg:=hD (za v1 (.cells #[.int .i64 (k:Int), .string ⟨#[]⟩, .string ⟨#[]⟩, .string ⟨#[]⟩] 124));have hl1:v1.heap.size<(v1.alloc (.cells #[.int .i64 (k:Int), .string ⟨#[]⟩, .string ⟨#[]⟩, .string ⟨#[]⟩] 124)).heap.size:=by simp
          go_upto_region 15 with fail;change Code.wp _ _ _ _ (v1.alloc (.cells #[.int .i64 (k:Int), .string ⟨#[]⟩, .string ⟨#[]⟩, .string ⟨#[]⟩] 124));clear hl1 m1 m2 m3 e1 e2 e3;have HX2:=hD (HX2.out.below HBg.out);have HR:=hD (HR.out.below HBg.out);have HB:=hD (bon HB.out HBg.out);have HX6:Hid (Vr (v1.alloc (.cells #[.int .i64 (k:Int), .string ⟨#[]⟩, .string ⟨#[]⟩, .string ⟨#[]⟩] 124)) v1.heap.size [.int .i64 (k:Int), .string ⟨(zH []).toArray⟩, .string ⟨(zI k []).toArray⟩, .string ⟨(zA k []).toArray⟩]):=hD (HF6.out.eq jap);exact fo153
        · have w1:=hcell 1 _ rfl;have hmm:m=2:=by have h:=HM.out;simp at h;omega
          have m1:(1:Int) <(m:Int):=by omega
          have e1:1<m:=by omega
          have m2:¬((2:Int) <(m:Int)):=by omega
          have e2:¬(2<m):=by omega
          have m3:¬((3:Int) <(m:Int)):=by omega
          have e3:¬(3<m):=by omega
          clear hmm;have HF6:=hD (Vr.new v1 [.int .i64 (k:Int), .string ⟨a.toArray⟩, .string ⟨#[]⟩, .string ⟨#[]⟩] 124);have HBg:=hD (za v1 (.cells #[.int .i64 (k:Int), .string ⟨a.toArray⟩, .string ⟨#[]⟩, .string ⟨#[]⟩] 124));have hl1:v1.heap.size<(v1.alloc (.cells #[.int .i64 (k:Int), .string ⟨#[]⟩, .string ⟨#[]⟩, .string ⟨#[]⟩] 124)).heap.size:=by simp
          go_upto_region 15 with fail;change Code.wp _ _ _ _ (v1.alloc (.cells #[.int .i64 (k:Int), .string ⟨a.toArray⟩, .string ⟨#[]⟩, .string ⟨#[]⟩] 124));clear hl1 m1 m2 m3 e1 e2 e3 w1;have HX2:=hD (HX2.out.below HBg.out);have HR:=hD (HR.out.below HBg.out);have HB:=hD (bon HB.out HBg.out);have HX6:Hid (Vr (v1.alloc (.cells #[.int .i64 (k:Int), .string ⟨a.toArray⟩, .string ⟨#[]⟩, .string ⟨#[]⟩] 124)) v1.heap.size [.int .i64 (k:Int), .string ⟨(zH [a]).toArray⟩, .string ⟨(zI k [a]).toArray⟩, .string ⟨(zA k [a]).toArray⟩]):=hD (HF6.out.eq jap);exact fo152
        · have w1:=hcell 1 _ rfl;have w2:=hcell 2 _ rfl;have hmm:m=3:=by have h:=HM.out;simp at h;omega
          have m1:(1:Int) <(m:Int):=by omega
          have e1:1<m:=by omega
          have m2:(2:Int) <(m:Int):=by omega
          have e2:2<m:=by omega
          have m3:¬((3:Int) <(m:Int)):=by omega
          have e3:¬(3<m):=by omega
          clear hmm;have HF6:=hD (Vr.new v1 [.int .i64 (k:Int), .string ⟨a.toArray⟩, .string ⟨#[]⟩, .string ⟨b.toArray⟩] 124);have HBg:=hD (za v1 (.cells #[.int .i64 (k:Int), .string ⟨a.toArray⟩, .string ⟨#[]⟩, .string ⟨b.toArray⟩] 124));have hl1:v1.heap.size<(v1.alloc (.cells #[.int .i64 (k:Int), .string ⟨#[]⟩, .string ⟨#[]⟩, .string ⟨#[]⟩] 124)).heap.size:=by simp
          go_upto_region 15 with fail;change Code.wp _ _ _ _ (v1.alloc (.cells #[.int .i64 (k:Int), .string ⟨a.toArray⟩, .string ⟨#[]⟩, .string ⟨b.toArray⟩] 124));clear hl1 m1 m2 m3 e1 e2 e3 w1 w2;have HX2:=hD (HX2.out.below HBg.out);have HR:=hD (HR.out.below HBg.out);have HB:=hD (bon HB.out HBg.out);have HX6:Hid (Vr (v1.alloc (.cells #[.int .i64 (k:Int), .string ⟨a.toArray⟩, .string ⟨#[]⟩, .string ⟨b.toArray⟩] 124)) v1.heap.size [.int .i64 (k:Int), .string ⟨(zH [a,b]).toArray⟩, .string ⟨(zI k [a,b]).toArray⟩, .string ⟨(zA k [a,b]).toArray⟩]):=hD (HF6.out.eq jap);have HSz:Hid ((zH [a,b]).length+(zI k [a,b]).length+(zA k [a,b]).length≤1048576):=hD (zaK HCut.out HLen.out hss);clear HF6 HBg;generalize (v1.alloc (.cells #[.int .i64 (k:Int), .string ⟨a.toArray⟩, .string ⟨#[]⟩, .string ⟨b.toArray⟩] 124))=wv at HX2 HR HB HX6⊢;exact fo155
        · have w1:=hcell 1 _ rfl;have w2:=hcell 2 _ rfl;have w3:=hcell 3 _ rfl;have hmm:4≤m:=by have h:=HM.out;simp at h;omega
          have m1:(1:Int) <(m:Int):=by omega
          have e1:1<m:=by omega
          have m2:(2:Int) <(m:Int):=by omega
          have e2:2<m:=by omega
          have m3:(3:Int) <(m:Int):=by omega
          have e3:3<m:=by omega
          clear hmm;have HF6:=hD (Vr.new v1 [.int .i64 (k:Int), .string ⟨a.toArray⟩, .string ⟨#[]⟩, .string ⟨b.toArray⟩] 124);have HBg:=hD (za v1 (.cells #[.int .i64 (k:Int), .string ⟨a.toArray⟩, .string ⟨#[]⟩, .string ⟨b.toArray⟩] 124));have hl1:v1.heap.size<(v1.alloc (.cells #[.int .i64 (k:Int), .string ⟨#[]⟩, .string ⟨#[]⟩, .string ⟨#[]⟩] 124)).heap.size:=by simp
          go_upto_region 15 with fail;change Code.wp _ _ _ _ (v1.alloc (.cells #[.int .i64 (k:Int), .string ⟨a.toArray⟩, .string ⟨#[]⟩, .string ⟨b.toArray⟩] 124));clear hl1 m1 m2 m3 e1 e2 e3 w1 w2 w3;have HX2:=hD (HX2.out.below HBg.out);have HR:=hD (HR.out.below HBg.out);have HB:=hD (bon HB.out HBg.out);have HX6:Hid (Vr (v1.alloc (.cells #[.int .i64 (k:Int), .string ⟨a.toArray⟩, .string ⟨#[]⟩, .string ⟨b.toArray⟩] 124)) v1.heap.size [.int .i64 (k:Int), .string ⟨(zH (a::b::c::t)).toArray⟩, .string ⟨(zI k (a::b::c::t)).toArray⟩, .string ⟨(zA k (a::b::c::t)).toArray⟩]):=hD (HF6.out.eq jap);have HSz:Hid ((zH (a::b::c::t)).length+(zI k (a::b::c::t)).length+(zA k (a::b::c::t)).length≤1048576):=hD (zaK HCut.out HLen.out hss);clear HF6 HBg;generalize (v1.alloc (.cells #[.int .i64 (k:Int), .string ⟨a.toArray⟩, .string ⟨#[]⟩, .string ⟨b.toArray⟩] 124))=wv at HX2 HR HB HX6⊢;exact fo154
    · have HK:Hid (kindOk k s.data.toList=false):=hD (kind_no HCx.out hxk);have hne:(x == zn k)=false:=by simpa using hxk
      have hne2:(x != zn k)=true:=by simpa using hxk
      clear hxk;go_wp2_with fail;refine wp_region_noPanic ?_;have HX2:=hD (HX2.out.below (Below.refl _ _).drew);have HB:=hD (HB.out.drew);have HR:=hD (HR.out.below (Below.refl _ _).drew);generalize hv:wr.drew=v0 at HX2 HB HR;refine wp_region_held_drew (S:=fun W=>World.cell? W ⟨gw,ow,none⟩=some (.string ⟨x.toArray⟩)) jc (by rw [hv];exact((HW.out _ HR.out).1)) (fun hHeld=> ?_);rw [hv] at hHeld⊢;clear hv;refine takes [0,1,2,3] ?_;refine tkr 4 rfl (fun K hK=> ?_);go_simp;go_at_call 147;refine(zej k hk1 hk6 _).mono ?_;rintro e v1 ⟨rfl,hs⟩;have HX2:=hD (HX2.out.below hs);have HB:=hD (bon HB.out hs);have HR:=hD (HR.out.below hs);clear hs;go_wp2_with fail;refine hK.out _ _ ((HW.out _ HR.out).1) (fun hHeld=> ?_);clear hK K;try simp only [Act.put,qk1,qk2,qk3,qk4,qk5,qk6]
      refine takes [5] ?_;refine wpAnyH_done jc ?_ _;refine NoPanic.normal ?_;exact fo6
  · obtain rfl:k=7:=by omega
    have HK:Hid (opOk s.data.toList=false):=hD (opOk_no (fun j h1 h2=>HJ.out j h1 ja));have HR2:=hD (HX2.out.sets [.int .i64 0, .string ⟨#[]⟩, .string ⟨#[]⟩, .string ⟨#[]⟩] rfl);have HB3:=hD (zh HB.out (zf (b:=b2) [.int .i64 0, .string ⟨#[]⟩, .string ⟨#[]⟩, .string ⟨#[]⟩]) HB2.out);go_wp2_with (refine wpList_store_mid rfl 124 _ _ rfl b2 0 #[.int .i64 0, .string ⟨#[]⟩, .string ⟨#[]⟩, .string ⟨#[]⟩] rfl rfl ?_ Za (zbX _ _ _ _) ?_;· exact HX2.out.there rfl)
    refine bodyPost_ret (v:= .tuple #[.agg #[.int .i64 0, .string ⟨#[]⟩, .string ⟨#[]⟩, .string ⟨#[]⟩], .int .i64 2]) ?_ rfl (zb0 (ok:=opOk s.data.toList) (by rw [HK.out];rfl) HB3.out);exact zF Tryz.results103 _ _ b2 [.int .i64 0, .string ⟨#[]⟩, .string ⟨#[]⟩, .string ⟨#[]⟩] _ _ rfl rfl HR2.out.range Tryz.underlying124 rfl Za
end Go.Proofs.YtepbbaifpckcpaaGreatDoor
