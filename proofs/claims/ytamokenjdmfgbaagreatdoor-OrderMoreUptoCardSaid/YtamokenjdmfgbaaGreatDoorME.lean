/- What the small functions of the program answer; the store of functions and types; no condition beyond bounds on lengths. -/
import Derived.Test.YtamokenjdmfgbaaGreatDoorProg
import Derived.Test.YtamokenjdmfgbaaGreatDoorMB
import Derived.Test.YtamokenjdmfgbaaGreatDoorMC
import Derived.KernelRfl
namespace Go.Am
open Go.Proofs
noncomputable def infoT : T TypeInfo := .node (some Tryz.t0) (.node (some Tryz.t1) (.node (some Tryz.t3) (.node (some Tryz.t7) (.node (some Tryz.t15) (.node (some Tryz.t31) (.node (some Tryz.t63) (.node (some Tryz.t127) (.node (some Tryz.t255) .nil .nil) (.node (some Tryz.t383) .nil .nil)) (.node (some Tryz.t191) (.node (some Tryz.t319) .nil .nil) (.node (some Tryz.t447) .nil .nil))) (.node (some Tryz.t95) (.node (some Tryz.t159) (.node (some Tryz.t287) .nil .nil) (.node (some Tryz.t415) .nil .nil)) (.node (some Tryz.t223) (.node (some Tryz.t351) .nil .nil) .nil))) (.node (some Tryz.t47) (.node (some Tryz.t79) (.node (some Tryz.t143) (.node (some Tryz.t271) .nil .nil) (.node (some Tryz.t399) .nil .nil)) (.node (some Tryz.t207) (.node (some Tryz.t335) .nil .nil) .nil)) (.node (some Tryz.t111) (.node (some Tryz.t175) (.node (some Tryz.t303) .nil .nil) (.node (some Tryz.t431) .nil .nil)) (.node (some Tryz.t239) (.node (some Tryz.t367) .nil .nil) .nil)))) (.node (some Tryz.t23) (.node (some Tryz.t39) (.node (some Tryz.t71) (.node (some Tryz.t135) (.node (some Tryz.t263) .nil .nil) (.node (some Tryz.t391) .nil .nil)) (.node (some Tryz.t199) (.node (some Tryz.t327) .nil .nil) (.node (some Tryz.t455) .nil .nil))) (.node (some Tryz.t103) (.node (some Tryz.t167) (.node (some Tryz.t295) .nil .nil) (.node (some Tryz.t423) .nil .nil)) (.node (some Tryz.t231) (.node (some Tryz.t359) .nil .nil) .nil))) (.node (some Tryz.t55) (.node (some Tryz.t87) (.node (some Tryz.t151) (.node (some Tryz.t279) .nil .nil) (.node (some Tryz.t407) .nil .nil)) (.node (some Tryz.t215) (.node (some Tryz.t343) .nil .nil) .nil)) (.node (some Tryz.t119) (.node (some Tryz.t183) (.node (some Tryz.t311) .nil .nil) (.node (some Tryz.t439) .nil .nil)) (.node (some Tryz.t247) (.node (some Tryz.t375) .nil .nil) .nil))))) (.node (some Tryz.t11) (.node (some Tryz.t19) (.node (some Tryz.t35) (.node (some Tryz.t67) (.node (some Tryz.t131) (.node (some Tryz.t259) .nil .nil) (.node (some Tryz.t387) .nil .nil)) (.node (some Tryz.t195) (.node (some Tryz.t323) .nil .nil) (.node (some Tryz.t451) .nil .nil))) (.node (some Tryz.t99) (.node (some Tryz.t163) (.node (some Tryz.t291) .nil .nil) (.node (some Tryz.t419) .nil .nil)) (.node (some Tryz.t227) (.node (some Tryz.t355) .nil .nil) .nil))) (.node (some Tryz.t51) (.node (some Tryz.t83) (.node (some Tryz.t147) (.node (some Tryz.t275) .nil .nil) (.node (some Tryz.t403) .nil .nil)) (.node (some Tryz.t211) (.node (some Tryz.t339) .nil .nil) .nil)) (.node (some Tryz.t115) (.node (some Tryz.t179) (.node (some Tryz.t307) .nil .nil) (.node (some Tryz.t435) .nil .nil)) (.node (some Tryz.t243) (.node (some Tryz.t371) .nil .nil) .nil)))) (.node (some Tryz.t27) (.node (some Tryz.t43) (.node (some Tryz.t75) (.node (some Tryz.t139) (.node (some Tryz.t267) .nil .nil) (.node (some Tryz.t395) .nil .nil)) (.node (some Tryz.t203) (.node (some Tryz.t331) .nil .nil) .nil)) (.node (some Tryz.t107) (.node (some Tryz.t171) (.node (some Tryz.t299) .nil .nil) (.node (some Tryz.t427) .nil .nil)) (.node (some Tryz.t235) (.node (some Tryz.t363) .nil .nil) .nil))) (.node (some Tryz.t59) (.node (some Tryz.t91) (.node (some Tryz.t155) (.node (some Tryz.t283) .nil .nil) (.node (some Tryz.t411) .nil .nil)) (.node (some Tryz.t219) (.node (some Tryz.t347) .nil .nil) .nil)) (.node (some Tryz.t123) (.node (some Tryz.t187) (.node (some Tryz.t315) .nil .nil) (.node (some Tryz.t443) .nil .nil)) (.node (some Tryz.t251) (.node (some Tryz.t379) .nil .nil) .nil)))))) (.node (some Tryz.t5) (.node (some Tryz.t9) (.node (some Tryz.t17) (.node (some Tryz.t33) (.node (some Tryz.t65) (.node (some Tryz.t129) (.node (some Tryz.t257) .nil .nil) (.node (some Tryz.t385) .nil .nil)) (.node (some Tryz.t193) (.node (some Tryz.t321) .nil .nil) (.node (some Tryz.t449) .nil .nil))) (.node (some Tryz.t97) (.node (some Tryz.t161) (.node (some Tryz.t289) .nil .nil) (.node (some Tryz.t417) .nil .nil)) (.node (some Tryz.t225) (.node (some Tryz.t353) .nil .nil) .nil))) (.node (some Tryz.t49) (.node (some Tryz.t81) (.node (some Tryz.t145) (.node (some Tryz.t273) .nil .nil) (.node (some Tryz.t401) .nil .nil)) (.node (some Tryz.t209) (.node (some Tryz.t337) .nil .nil) .nil)) (.node (some Tryz.t113) (.node (some Tryz.t177) (.node (some Tryz.t305) .nil .nil) (.node (some Tryz.t433) .nil .nil)) (.node (some Tryz.t241) (.node (some Tryz.t369) .nil .nil) .nil)))) (.node (some Tryz.t25) (.node (some Tryz.t41) (.node (some Tryz.t73) (.node (some Tryz.t137) (.node (some Tryz.t265) .nil .nil) (.node (some Tryz.t393) .nil .nil)) (.node (some Tryz.t201) (.node (some Tryz.t329) .nil .nil) (.node (some Tryz.t457) .nil .nil))) (.node (some Tryz.t105) (.node (some Tryz.t169) (.node (some Tryz.t297) .nil .nil) (.node (some Tryz.t425) .nil .nil)) (.node (some Tryz.t233) (.node (some Tryz.t361) .nil .nil) .nil))) (.node (some Tryz.t57) (.node (some Tryz.t89) (.node (some Tryz.t153) (.node (some Tryz.t281) .nil .nil) (.node (some Tryz.t409) .nil .nil)) (.node (some Tryz.t217) (.node (some Tryz.t345) .nil .nil) .nil)) (.node (some Tryz.t121) (.node (some Tryz.t185) (.node (some Tryz.t313) .nil .nil) (.node (some Tryz.t441) .nil .nil)) (.node (some Tryz.t249) (.node (some Tryz.t377) .nil .nil) .nil))))) (.node (some Tryz.t13) (.node (some Tryz.t21) (.node (some Tryz.t37) (.node (some Tryz.t69) (.node (some Tryz.t133) (.node (some Tryz.t261) .nil .nil) (.node (some Tryz.t389) .nil .nil)) (.node (some Tryz.t197) (.node (some Tryz.t325) .nil .nil) (.node (some Tryz.t453) .nil .nil))) (.node (some Tryz.t101) (.node (some Tryz.t165) (.node (some Tryz.t293) .nil .nil) (.node (some Tryz.t421) .nil .nil)) (.node (some Tryz.t229) (.node (some Tryz.t357) .nil .nil) .nil))) (.node (some Tryz.t53) (.node (some Tryz.t85) (.node (some Tryz.t149) (.node (some Tryz.t277) .nil .nil) (.node (some Tryz.t405) .nil .nil)) (.node (some Tryz.t213) (.node (some Tryz.t341) .nil .nil) .nil)) (.node (some Tryz.t117) (.node (some Tryz.t181) (.node (some Tryz.t309) .nil .nil) (.node (some Tryz.t437) .nil .nil)) (.node (some Tryz.t245) (.node (some Tryz.t373) .nil .nil) .nil)))) (.node (some Tryz.t29) (.node (some Tryz.t45) (.node (some Tryz.t77) (.node (some Tryz.t141) (.node (some Tryz.t269) .nil .nil) (.node (some Tryz.t397) .nil .nil)) (.node (some Tryz.t205) (.node (some Tryz.t333) .nil .nil) .nil)) (.node (some Tryz.t109) (.node (some Tryz.t173) (.node (some Tryz.t301) .nil .nil) (.node (some Tryz.t429) .nil .nil)) (.node (some Tryz.t237) (.node (some Tryz.t365) .nil .nil) .nil))) (.node (some Tryz.t61) (.node (some Tryz.t93) (.node (some Tryz.t157) (.node (some Tryz.t285) .nil .nil) (.node (some Tryz.t413) .nil .nil)) (.node (some Tryz.t221) (.node (some Tryz.t349) .nil .nil) .nil)) (.node (some Tryz.t125) (.node (some Tryz.t189) (.node (some Tryz.t317) .nil .nil) (.node (some Tryz.t445) .nil .nil)) (.node (some Tryz.t253) (.node (some Tryz.t381) .nil .nil) .nil))))))) (.node (some Tryz.t2) (.node (some Tryz.t4) (.node (some Tryz.t8) (.node (some Tryz.t16) (.node (some Tryz.t32) (.node (some Tryz.t64) (.node (some Tryz.t128) (.node (some Tryz.t256) .nil .nil) (.node (some Tryz.t384) .nil .nil)) (.node (some Tryz.t192) (.node (some Tryz.t320) .nil .nil) (.node (some Tryz.t448) .nil .nil))) (.node (some Tryz.t96) (.node (some Tryz.t160) (.node (some Tryz.t288) .nil .nil) (.node (some Tryz.t416) .nil .nil)) (.node (some Tryz.t224) (.node (some Tryz.t352) .nil .nil) .nil))) (.node (some Tryz.t48) (.node (some Tryz.t80) (.node (some Tryz.t144) (.node (some Tryz.t272) .nil .nil) (.node (some Tryz.t400) .nil .nil)) (.node (some Tryz.t208) (.node (some Tryz.t336) .nil .nil) .nil)) (.node (some Tryz.t112) (.node (some Tryz.t176) (.node (some Tryz.t304) .nil .nil) (.node (some Tryz.t432) .nil .nil)) (.node (some Tryz.t240) (.node (some Tryz.t368) .nil .nil) .nil)))) (.node (some Tryz.t24) (.node (some Tryz.t40) (.node (some Tryz.t72) (.node (some Tryz.t136) (.node (some Tryz.t264) .nil .nil) (.node (some Tryz.t392) .nil .nil)) (.node (some Tryz.t200) (.node (some Tryz.t328) .nil .nil) (.node (some Tryz.t456) .nil .nil))) (.node (some Tryz.t104) (.node (some Tryz.t168) (.node (some Tryz.t296) .nil .nil) (.node (some Tryz.t424) .nil .nil)) (.node (some Tryz.t232) (.node (some Tryz.t360) .nil .nil) .nil))) (.node (some Tryz.t56) (.node (some Tryz.t88) (.node (some Tryz.t152) (.node (some Tryz.t280) .nil .nil) (.node (some Tryz.t408) .nil .nil)) (.node (some Tryz.t216) (.node (some Tryz.t344) .nil .nil) .nil)) (.node (some Tryz.t120) (.node (some Tryz.t184) (.node (some Tryz.t312) .nil .nil) (.node (some Tryz.t440) .nil .nil)) (.node (some Tryz.t248) (.node (some Tryz.t376) .nil .nil) .nil))))) (.node (some Tryz.t12) (.node (some Tryz.t20) (.node (some Tryz.t36) (.node (some Tryz.t68) (.node (some Tryz.t132) (.node (some Tryz.t260) .nil .nil) (.node (some Tryz.t388) .nil .nil)) (.node (some Tryz.t196) (.node (some Tryz.t324) .nil .nil) (.node (some Tryz.t452) .nil .nil))) (.node (some Tryz.t100) (.node (some Tryz.t164) (.node (some Tryz.t292) .nil .nil) (.node (some Tryz.t420) .nil .nil)) (.node (some Tryz.t228) (.node (some Tryz.t356) .nil .nil) .nil))) (.node (some Tryz.t52) (.node (some Tryz.t84) (.node (some Tryz.t148) (.node (some Tryz.t276) .nil .nil) (.node (some Tryz.t404) .nil .nil)) (.node (some Tryz.t212) (.node (some Tryz.t340) .nil .nil) .nil)) (.node (some Tryz.t116) (.node (some Tryz.t180) (.node (some Tryz.t308) .nil .nil) (.node (some Tryz.t436) .nil .nil)) (.node (some Tryz.t244) (.node (some Tryz.t372) .nil .nil) .nil)))) (.node (some Tryz.t28) (.node (some Tryz.t44) (.node (some Tryz.t76) (.node (some Tryz.t140) (.node (some Tryz.t268) .nil .nil) (.node (some Tryz.t396) .nil .nil)) (.node (some Tryz.t204) (.node (some Tryz.t332) .nil .nil) .nil)) (.node (some Tryz.t108) (.node (some Tryz.t172) (.node (some Tryz.t300) .nil .nil) (.node (some Tryz.t428) .nil .nil)) (.node (some Tryz.t236) (.node (some Tryz.t364) .nil .nil) .nil))) (.node (some Tryz.t60) (.node (some Tryz.t92) (.node (some Tryz.t156) (.node (some Tryz.t284) .nil .nil) (.node (some Tryz.t412) .nil .nil)) (.node (some Tryz.t220) (.node (some Tryz.t348) .nil .nil) .nil)) (.node (some Tryz.t124) (.node (some Tryz.t188) (.node (some Tryz.t316) .nil .nil) (.node (some Tryz.t444) .nil .nil)) (.node (some Tryz.t252) (.node (some Tryz.t380) .nil .nil) .nil)))))) (.node (some Tryz.t6) (.node (some Tryz.t10) (.node (some Tryz.t18) (.node (some Tryz.t34) (.node (some Tryz.t66) (.node (some Tryz.t130) (.node (some Tryz.t258) .nil .nil) (.node (some Tryz.t386) .nil .nil)) (.node (some Tryz.t194) (.node (some Tryz.t322) .nil .nil) (.node (some Tryz.t450) .nil .nil))) (.node (some Tryz.t98) (.node (some Tryz.t162) (.node (some Tryz.t290) .nil .nil) (.node (some Tryz.t418) .nil .nil)) (.node (some Tryz.t226) (.node (some Tryz.t354) .nil .nil) .nil))) (.node (some Tryz.t50) (.node (some Tryz.t82) (.node (some Tryz.t146) (.node (some Tryz.t274) .nil .nil) (.node (some Tryz.t402) .nil .nil)) (.node (some Tryz.t210) (.node (some Tryz.t338) .nil .nil) .nil)) (.node (some Tryz.t114) (.node (some Tryz.t178) (.node (some Tryz.t306) .nil .nil) (.node (some Tryz.t434) .nil .nil)) (.node (some Tryz.t242) (.node (some Tryz.t370) .nil .nil) .nil)))) (.node (some Tryz.t26) (.node (some Tryz.t42) (.node (some Tryz.t74) (.node (some Tryz.t138) (.node (some Tryz.t266) .nil .nil) (.node (some Tryz.t394) .nil .nil)) (.node (some Tryz.t202) (.node (some Tryz.t330) .nil .nil) (.node (some Tryz.t458) .nil .nil))) (.node (some Tryz.t106) (.node (some Tryz.t170) (.node (some Tryz.t298) .nil .nil) (.node (some Tryz.t426) .nil .nil)) (.node (some Tryz.t234) (.node (some Tryz.t362) .nil .nil) .nil))) (.node (some Tryz.t58) (.node (some Tryz.t90) (.node (some Tryz.t154) (.node (some Tryz.t282) .nil .nil) (.node (some Tryz.t410) .nil .nil)) (.node (some Tryz.t218) (.node (some Tryz.t346) .nil .nil) .nil)) (.node (some Tryz.t122) (.node (some Tryz.t186) (.node (some Tryz.t314) .nil .nil) (.node (some Tryz.t442) .nil .nil)) (.node (some Tryz.t250) (.node (some Tryz.t378) .nil .nil) .nil))))) (.node (some Tryz.t14) (.node (some Tryz.t22) (.node (some Tryz.t38) (.node (some Tryz.t70) (.node (some Tryz.t134) (.node (some Tryz.t262) .nil .nil) (.node (some Tryz.t390) .nil .nil)) (.node (some Tryz.t198) (.node (some Tryz.t326) .nil .nil) (.node (some Tryz.t454) .nil .nil))) (.node (some Tryz.t102) (.node (some Tryz.t166) (.node (some Tryz.t294) .nil .nil) (.node (some Tryz.t422) .nil .nil)) (.node (some Tryz.t230) (.node (some Tryz.t358) .nil .nil) .nil))) (.node (some Tryz.t54) (.node (some Tryz.t86) (.node (some Tryz.t150) (.node (some Tryz.t278) .nil .nil) (.node (some Tryz.t406) .nil .nil)) (.node (some Tryz.t214) (.node (some Tryz.t342) .nil .nil) .nil)) (.node (some Tryz.t118) (.node (some Tryz.t182) (.node (some Tryz.t310) .nil .nil) (.node (some Tryz.t438) .nil .nil)) (.node (some Tryz.t246) (.node (some Tryz.t374) .nil .nil) .nil)))) (.node (some Tryz.t30) (.node (some Tryz.t46) (.node (some Tryz.t78) (.node (some Tryz.t142) (.node (some Tryz.t270) .nil .nil) (.node (some Tryz.t398) .nil .nil)) (.node (some Tryz.t206) (.node (some Tryz.t334) .nil .nil) .nil)) (.node (some Tryz.t110) (.node (some Tryz.t174) (.node (some Tryz.t302) .nil .nil) (.node (some Tryz.t430) .nil .nil)) (.node (some Tryz.t238) (.node (some Tryz.t366) .nil .nil) .nil))) (.node (some Tryz.t62) (.node (some Tryz.t94) (.node (some Tryz.t158) (.node (some Tryz.t286) .nil .nil) (.node (some Tryz.t414) .nil .nil)) (.node (some Tryz.t222) (.node (some Tryz.t350) .nil .nil) .nil)) (.node (some Tryz.t126) (.node (some Tryz.t190) (.node (some Tryz.t318) .nil .nil) (.node (some Tryz.t446) .nil .nil)) (.node (some Tryz.t254) (.node (some Tryz.t382) .nil .nil) .nil)))))))
noncomputable def funcT : T Func := .node (some Tryz.f0) (.node (some Tryz.f1) (.node (some Tryz.f3) (.node (some Tryz.f7) (.node (some Tryz.f15) (.node (some Tryz.f31) (.node (some Tryz.f63) (.node (some Tryz.f127) (.node (some Tryz.f255) .nil .nil) (.node (some Tryz.f383) .nil .nil)) (.node (some Tryz.f191) (.node (some Tryz.f319) .nil .nil) .nil)) (.node (some Tryz.f95) (.node (some Tryz.f159) (.node (some Tryz.f287) .nil .nil) .nil) (.node (some Tryz.f223) (.node (some Tryz.f351) .nil .nil) .nil))) (.node (some Tryz.f47) (.node (some Tryz.f79) (.node (some Tryz.f143) (.node (some Tryz.f271) .nil .nil) .nil) (.node (some Tryz.f207) (.node (some Tryz.f335) .nil .nil) .nil)) (.node (some Tryz.f111) (.node (some Tryz.f175) (.node (some Tryz.f303) .nil .nil) .nil) (.node (some Tryz.f239) (.node (some Tryz.f367) .nil .nil) .nil)))) (.node (some Tryz.f23) (.node (some Tryz.f39) (.node (some Tryz.f71) (.node (some Tryz.f135) (.node (some Tryz.f263) .nil .nil) .nil) (.node (some Tryz.f199) (.node (some Tryz.f327) .nil .nil) .nil)) (.node (some Tryz.f103) (.node (some Tryz.f167) (.node (some Tryz.f295) .nil .nil) .nil) (.node (some Tryz.f231) (.node (some Tryz.f359) .nil .nil) .nil))) (.node (some Tryz.f55) (.node (some Tryz.f87) (.node (some Tryz.f151) (.node (some Tryz.f279) .nil .nil) .nil) (.node (some Tryz.f215) (.node (some Tryz.f343) .nil .nil) .nil)) (.node (some Tryz.f119) (.node (some Tryz.f183) (.node (some Tryz.f311) .nil .nil) .nil) (.node (some Tryz.f247) (.node (some Tryz.f375) .nil .nil) .nil))))) (.node (some Tryz.f11) (.node (some Tryz.f19) (.node (some Tryz.f35) (.node (some Tryz.f67) (.node (some Tryz.f131) (.node (some Tryz.f259) .nil .nil) (.node (some Tryz.f387) .nil .nil)) (.node (some Tryz.f195) (.node (some Tryz.f323) .nil .nil) .nil)) (.node (some Tryz.f99) (.node (some Tryz.f163) (.node (some Tryz.f291) .nil .nil) .nil) (.node (some Tryz.f227) (.node (some Tryz.f355) .nil .nil) .nil))) (.node (some Tryz.f51) (.node (some Tryz.f83) (.node (some Tryz.f147) (.node (some Tryz.f275) .nil .nil) .nil) (.node (some Tryz.f211) (.node (some Tryz.f339) .nil .nil) .nil)) (.node (some Tryz.f115) (.node (some Tryz.f179) (.node (some Tryz.f307) .nil .nil) .nil) (.node (some Tryz.f243) (.node (some Tryz.f371) .nil .nil) .nil)))) (.node (some Tryz.f27) (.node (some Tryz.f43) (.node (some Tryz.f75) (.node (some Tryz.f139) (.node (some Tryz.f267) .nil .nil) .nil) (.node (some Tryz.f203) (.node (some Tryz.f331) .nil .nil) .nil)) (.node (some Tryz.f107) (.node (some Tryz.f171) (.node (some Tryz.f299) .nil .nil) .nil) (.node (some Tryz.f235) (.node (some Tryz.f363) .nil .nil) .nil))) (.node (some Tryz.f59) (.node (some Tryz.f91) (.node (some Tryz.f155) (.node (some Tryz.f283) .nil .nil) .nil) (.node (some Tryz.f219) (.node (some Tryz.f347) .nil .nil) .nil)) (.node (some Tryz.f123) (.node (some Tryz.f187) (.node (some Tryz.f315) .nil .nil) .nil) (.node (some Tryz.f251) (.node (some Tryz.f379) .nil .nil) .nil)))))) (.node (some Tryz.f5) (.node (some Tryz.f9) (.node (some Tryz.f17) (.node (some Tryz.f33) (.node (some Tryz.f65) (.node (some Tryz.f129) (.node (some Tryz.f257) .nil .nil) (.node (some Tryz.f385) .nil .nil)) (.node (some Tryz.f193) (.node (some Tryz.f321) .nil .nil) .nil)) (.node (some Tryz.f97) (.node (some Tryz.f161) (.node (some Tryz.f289) .nil .nil) .nil) (.node (some Tryz.f225) (.node (some Tryz.f353) .nil .nil) .nil))) (.node (some Tryz.f49) (.node (some Tryz.f81) (.node (some Tryz.f145) (.node (some Tryz.f273) .nil .nil) .nil) (.node (some Tryz.f209) (.node (some Tryz.f337) .nil .nil) .nil)) (.node (some Tryz.f113) (.node (some Tryz.f177) (.node (some Tryz.f305) .nil .nil) .nil) (.node (some Tryz.f241) (.node (some Tryz.f369) .nil .nil) .nil)))) (.node (some Tryz.f25) (.node (some Tryz.f41) (.node (some Tryz.f73) (.node (some Tryz.f137) (.node (some Tryz.f265) .nil .nil) .nil) (.node (some Tryz.f201) (.node (some Tryz.f329) .nil .nil) .nil)) (.node (some Tryz.f105) (.node (some Tryz.f169) (.node (some Tryz.f297) .nil .nil) .nil) (.node (some Tryz.f233) (.node (some Tryz.f361) .nil .nil) .nil))) (.node (some Tryz.f57) (.node (some Tryz.f89) (.node (some Tryz.f153) (.node (some Tryz.f281) .nil .nil) .nil) (.node (some Tryz.f217) (.node (some Tryz.f345) .nil .nil) .nil)) (.node (some Tryz.f121) (.node (some Tryz.f185) (.node (some Tryz.f313) .nil .nil) .nil) (.node (some Tryz.f249) (.node (some Tryz.f377) .nil .nil) .nil))))) (.node (some Tryz.f13) (.node (some Tryz.f21) (.node (some Tryz.f37) (.node (some Tryz.f69) (.node (some Tryz.f133) (.node (some Tryz.f261) .nil .nil) .nil) (.node (some Tryz.f197) (.node (some Tryz.f325) .nil .nil) .nil)) (.node (some Tryz.f101) (.node (some Tryz.f165) (.node (some Tryz.f293) .nil .nil) .nil) (.node (some Tryz.f229) (.node (some Tryz.f357) .nil .nil) .nil))) (.node (some Tryz.f53) (.node (some Tryz.f85) (.node (some Tryz.f149) (.node (some Tryz.f277) .nil .nil) .nil) (.node (some Tryz.f213) (.node (some Tryz.f341) .nil .nil) .nil)) (.node (some Tryz.f117) (.node (some Tryz.f181) (.node (some Tryz.f309) .nil .nil) .nil) (.node (some Tryz.f245) (.node (some Tryz.f373) .nil .nil) .nil)))) (.node (some Tryz.f29) (.node (some Tryz.f45) (.node (some Tryz.f77) (.node (some Tryz.f141) (.node (some Tryz.f269) .nil .nil) .nil) (.node (some Tryz.f205) (.node (some Tryz.f333) .nil .nil) .nil)) (.node (some Tryz.f109) (.node (some Tryz.f173) (.node (some Tryz.f301) .nil .nil) .nil) (.node (some Tryz.f237) (.node (some Tryz.f365) .nil .nil) .nil))) (.node (some Tryz.f61) (.node (some Tryz.f93) (.node (some Tryz.f157) (.node (some Tryz.f285) .nil .nil) .nil) (.node (some Tryz.f221) (.node (some Tryz.f349) .nil .nil) .nil)) (.node (some Tryz.f125) (.node (some Tryz.f189) (.node (some Tryz.f317) .nil .nil) .nil) (.node (some Tryz.f253) (.node (some Tryz.f381) .nil .nil) .nil))))))) (.node (some Tryz.f2) (.node (some Tryz.f4) (.node (some Tryz.f8) (.node (some Tryz.f16) (.node (some Tryz.f32) (.node (some Tryz.f64) (.node (some Tryz.f128) (.node (some Tryz.f256) .nil .nil) (.node (some Tryz.f384) .nil .nil)) (.node (some Tryz.f192) (.node (some Tryz.f320) .nil .nil) .nil)) (.node (some Tryz.f96) (.node (some Tryz.f160) (.node (some Tryz.f288) .nil .nil) .nil) (.node (some Tryz.f224) (.node (some Tryz.f352) .nil .nil) .nil))) (.node (some Tryz.f48) (.node (some Tryz.f80) (.node (some Tryz.f144) (.node (some Tryz.f272) .nil .nil) .nil) (.node (some Tryz.f208) (.node (some Tryz.f336) .nil .nil) .nil)) (.node (some Tryz.f112) (.node (some Tryz.f176) (.node (some Tryz.f304) .nil .nil) .nil) (.node (some Tryz.f240) (.node (some Tryz.f368) .nil .nil) .nil)))) (.node (some Tryz.f24) (.node (some Tryz.f40) (.node (some Tryz.f72) (.node (some Tryz.f136) (.node (some Tryz.f264) .nil .nil) .nil) (.node (some Tryz.f200) (.node (some Tryz.f328) .nil .nil) .nil)) (.node (some Tryz.f104) (.node (some Tryz.f168) (.node (some Tryz.f296) .nil .nil) .nil) (.node (some Tryz.f232) (.node (some Tryz.f360) .nil .nil) .nil))) (.node (some Tryz.f56) (.node (some Tryz.f88) (.node (some Tryz.f152) (.node (some Tryz.f280) .nil .nil) .nil) (.node (some Tryz.f216) (.node (some Tryz.f344) .nil .nil) .nil)) (.node (some Tryz.f120) (.node (some Tryz.f184) (.node (some Tryz.f312) .nil .nil) .nil) (.node (some Tryz.f248) (.node (some Tryz.f376) .nil .nil) .nil))))) (.node (some Tryz.f12) (.node (some Tryz.f20) (.node (some Tryz.f36) (.node (some Tryz.f68) (.node (some Tryz.f132) (.node (some Tryz.f260) .nil .nil) (.node (some Tryz.f388) .nil .nil)) (.node (some Tryz.f196) (.node (some Tryz.f324) .nil .nil) .nil)) (.node (some Tryz.f100) (.node (some Tryz.f164) (.node (some Tryz.f292) .nil .nil) .nil) (.node (some Tryz.f228) (.node (some Tryz.f356) .nil .nil) .nil))) (.node (some Tryz.f52) (.node (some Tryz.f84) (.node (some Tryz.f148) (.node (some Tryz.f276) .nil .nil) .nil) (.node (some Tryz.f212) (.node (some Tryz.f340) .nil .nil) .nil)) (.node (some Tryz.f116) (.node (some Tryz.f180) (.node (some Tryz.f308) .nil .nil) .nil) (.node (some Tryz.f244) (.node (some Tryz.f372) .nil .nil) .nil)))) (.node (some Tryz.f28) (.node (some Tryz.f44) (.node (some Tryz.f76) (.node (some Tryz.f140) (.node (some Tryz.f268) .nil .nil) .nil) (.node (some Tryz.f204) (.node (some Tryz.f332) .nil .nil) .nil)) (.node (some Tryz.f108) (.node (some Tryz.f172) (.node (some Tryz.f300) .nil .nil) .nil) (.node (some Tryz.f236) (.node (some Tryz.f364) .nil .nil) .nil))) (.node (some Tryz.f60) (.node (some Tryz.f92) (.node (some Tryz.f156) (.node (some Tryz.f284) .nil .nil) .nil) (.node (some Tryz.f220) (.node (some Tryz.f348) .nil .nil) .nil)) (.node (some Tryz.f124) (.node (some Tryz.f188) (.node (some Tryz.f316) .nil .nil) .nil) (.node (some Tryz.f252) (.node (some Tryz.f380) .nil .nil) .nil)))))) (.node (some Tryz.f6) (.node (some Tryz.f10) (.node (some Tryz.f18) (.node (some Tryz.f34) (.node (some Tryz.f66) (.node (some Tryz.f130) (.node (some Tryz.f258) .nil .nil) (.node (some Tryz.f386) .nil .nil)) (.node (some Tryz.f194) (.node (some Tryz.f322) .nil .nil) .nil)) (.node (some Tryz.f98) (.node (some Tryz.f162) (.node (some Tryz.f290) .nil .nil) .nil) (.node (some Tryz.f226) (.node (some Tryz.f354) .nil .nil) .nil))) (.node (some Tryz.f50) (.node (some Tryz.f82) (.node (some Tryz.f146) (.node (some Tryz.f274) .nil .nil) .nil) (.node (some Tryz.f210) (.node (some Tryz.f338) .nil .nil) .nil)) (.node (some Tryz.f114) (.node (some Tryz.f178) (.node (some Tryz.f306) .nil .nil) .nil) (.node (some Tryz.f242) (.node (some Tryz.f370) .nil .nil) .nil)))) (.node (some Tryz.f26) (.node (some Tryz.f42) (.node (some Tryz.f74) (.node (some Tryz.f138) (.node (some Tryz.f266) .nil .nil) .nil) (.node (some Tryz.f202) (.node (some Tryz.f330) .nil .nil) .nil)) (.node (some Tryz.f106) (.node (some Tryz.f170) (.node (some Tryz.f298) .nil .nil) .nil) (.node (some Tryz.f234) (.node (some Tryz.f362) .nil .nil) .nil))) (.node (some Tryz.f58) (.node (some Tryz.f90) (.node (some Tryz.f154) (.node (some Tryz.f282) .nil .nil) .nil) (.node (some Tryz.f218) (.node (some Tryz.f346) .nil .nil) .nil)) (.node (some Tryz.f122) (.node (some Tryz.f186) (.node (some Tryz.f314) .nil .nil) .nil) (.node (some Tryz.f250) (.node (some Tryz.f378) .nil .nil) .nil))))) (.node (some Tryz.f14) (.node (some Tryz.f22) (.node (some Tryz.f38) (.node (some Tryz.f70) (.node (some Tryz.f134) (.node (some Tryz.f262) .nil .nil) .nil) (.node (some Tryz.f198) (.node (some Tryz.f326) .nil .nil) .nil)) (.node (some Tryz.f102) (.node (some Tryz.f166) (.node (some Tryz.f294) .nil .nil) .nil) (.node (some Tryz.f230) (.node (some Tryz.f358) .nil .nil) .nil))) (.node (some Tryz.f54) (.node (some Tryz.f86) (.node (some Tryz.f150) (.node (some Tryz.f278) .nil .nil) .nil) (.node (some Tryz.f214) (.node (some Tryz.f342) .nil .nil) .nil)) (.node (some Tryz.f118) (.node (some Tryz.f182) (.node (some Tryz.f310) .nil .nil) .nil) (.node (some Tryz.f246) (.node (some Tryz.f374) .nil .nil) .nil)))) (.node (some Tryz.f30) (.node (some Tryz.f46) (.node (some Tryz.f78) (.node (some Tryz.f142) (.node (some Tryz.f270) .nil .nil) .nil) (.node (some Tryz.f206) (.node (some Tryz.f334) .nil .nil) .nil)) (.node (some Tryz.f110) (.node (some Tryz.f174) (.node (some Tryz.f302) .nil .nil) .nil) (.node (some Tryz.f238) (.node (some Tryz.f366) .nil .nil) .nil))) (.node (some Tryz.f62) (.node (some Tryz.f94) (.node (some Tryz.f158) (.node (some Tryz.f286) .nil .nil) .nil) (.node (some Tryz.f222) (.node (some Tryz.f350) .nil .nil) .nil)) (.node (some Tryz.f126) (.node (some Tryz.f190) (.node (some Tryz.f318) .nil .nil) .nil) (.node (some Tryz.f254) (.node (some Tryz.f382) .nil .nil) .nil)))))))
def extN (i : Nat) : Nat := cond (Nat.beq i 315) 1 (cond (Nat.beq i 294) 3 (cond (Nat.beq i 273) 4 (cond (Nat.beq i 215) 5 (cond (Nat.beq i 274) 6 (cond (Nat.beq i 83) 7 (0))))))
def eqsN (i : Nat) : Bool := cond (Nat.beq i 256) true (cond (Nat.beq i 258) true (cond (Nat.beq i 47) true (cond (Nat.beq i 65) true (cond (Nat.beq i 174) true (false)))))
def extHN (x : Nat) (args : List Value) (H : AH) : Option (Value × AH) :=
  match x with
  | 6 => extKeys true 2 149 44 (isFn 85) args H
  | _ => none
noncomputable def tab : Tab := ⟨infoT.get, funcT.get, extN, fun _ => false, eqsN, extHN⟩
end Go.Am
namespace Go.Vw
open Go.RowKit Go.Am Go.Proofs
attribute [local irreducible] VOps VRun VNext VD VDn VDq Ret

structure MSized where
  name : ByteArray
  size : Int
structure MOp where
  (kind a b c d e f k : Int)
  args : List Int
  (next els at_ : Int)
structure MFunc where
  name : ByteArray
  (params regs result : Int)
  code : List MOp
structure MModule where
  (globals structs chans : List MSized)
  (locks inputs sinks hatches : List ByteArray)
  funcs : List MFunc
  threads : List Int
def intV (i : Int) : List V := [.int .i64 i]
def strV (s : ByteArray) : List V := [.str s]
def sizedV (s : MSized) : List V := [.str s.name, .int .i64 s.size]
def opV (o : MOp) : List V := [.int .i64 o.kind, .int .i64 o.a, .int .i64 o.b, .int .i64 o.c, .int .i64 o.d, .int .i64 o.e, .int .i64 o.f, .int .i64 o.k, .slice .no (o.args.map intV), .int .i64 o.next, .int .i64 o.els, .int .i64 o.at_]
def funcV (f : MFunc) : List V := [.str f.name, .int .i64 f.params, .int .i64 f.regs, .int .i64 f.result, .slice .no (f.code.map opV)]
def modV (m : MModule) : List V := [.slice .no (m.globals.map sizedV), .slice .no (m.structs.map sizedV), .slice .no (m.chans.map sizedV), .slice .no (m.locks.map strV), .slice .no (m.inputs.map strV), .slice .no (m.sinks.map strV), .slice .no (m.hatches.map strV), .slice .no (m.funcs.map funcV), .slice .no (m.threads.map intV)]

def rowsI : List (List V) → Option (List Int)
  | [] => some []
  | [.int .i64 i] :: r => match rowsI r with
    | some l => some (i :: l)
    | none => none
  | _ => none
theorem rowsI_map : ∀ xs : List Int, rowsI (xs.map intV) = some xs
  | [] => rfl
  | x :: xs => by show (match rowsI (xs.map intV) with | some l => some (x :: l) | none => none) = _; rw [rowsI_map xs]
theorem rowsI_eq : ∀ {rows : List (List V)} {xs : List Int}, rowsI rows = some xs → rows = xs.map intV
  | [], xs, h => by cases h; rfl
  | r :: rows, xs, h => by
    unfold rowsI at h
    split at h
    · next h1 => cases h1
    · next i r' h1 =>
      cases h1
      split at h
      · next l e => cases h; rw [rowsI_eq e]; rfl
      · cases h
    · cases h

def idxI {α : Type} (p : α → Bool) (xs : List α) : Int := match xs.findIdx? p with | some i => i | none => -1
theorem idxI_ge {α : Type} (p : α → Bool) (xs : List α) : decide (0 ≤ idxI p xs) = xs.any p := by
  unfold idxI
  cases h : xs.findIdx? p with
  | none =>
    have h1 := List.findIdx?_eq_none_iff.1 h
    have : xs.any p = false := by rw [List.any_eq_false]; intro x hx; simpa using h1 x hx
    rw [this]; rfl
  | some i =>
    have : xs.any p = true := by
      cases hh : xs.any p
      · have h1 := List.any_eq_false.1 hh
        have : xs.findIdx? p = none := List.findIdx?_eq_none_iff.2 fun x hx => by simpa using h1 x hx
        rw [this] at h; cases h
      · rfl
    rw [this]
    simp
theorem idxI_hit {α : Type} (p : α → Bool) (xs : List α) (i : Nat) (hi : i < xs.length) (hp : p xs[i] = true) (hb : ∀ j (h : j < i), p (xs[j]'(by omega)) = false) : idxI p xs = i := by
  unfold idxI
  have : xs.findIdx? p = some i := by
    rw [List.findIdx?_eq_some_iff_getElem]
    exact ⟨hi, hp, fun j hj => by simpa using hb j hj⟩
  rw [this]
theorem idxI_miss {α : Type} (p : α → Bool) (xs : List α) (hb : ∀ j (h : j < xs.length), p xs[j] = false) : idxI p xs = -1 := by
  unfold idxI
  have : xs.findIdx? p = none := List.findIdx?_eq_none_iff.2 fun x hx => by
    obtain ⟨j, hj, rfl⟩ := List.getElem_of_mem hx
    simpa using hb j hj
  rw [this]

section
variable [Drw] (hT : TabOk tab Tryz.prog)
include hT
theorem indexInts {p : Int → Bool} {tok : Tok} {xs : List Int} {fid : FuncId} {first cap : List V} {fn : Func} {body : Code} (hl : xs.length < 4611686018427387904) (hf : tab.func fid = some fn) (hb : fn.body = some body)
    (hp : ∀ x ∈ xs, Pure Tryz.prog fid (first ++ [.int .i64 x] ++ cap) (.ob (p x))) : Pure Tryz.prog 209 [.slice tok (xs.map intV), .func fid first cap] (.int .i64 (idxI p xs)) := by
  refine VC.code hT 19 rfl rfl rfl rfl fun F w S0 => ?_
  refine go hT 10000 rfl ?_
  conv => whnf
  refine ops_g rfl (g_len hT rfl rfl rfl rfl rfl rfl (List.length_map _)) ?_
  refine go hT 10000 rfl ?_
  conv => whnf
  refine run_lq (fun i : Nat => ([(0, .slice tok (xs.map intV)), (1, .func fid first cap), (7, .int .i64 xs.length), (8, .int .i64 i)], [])) (fun i => ∀ j (h : j < i) (h' : j < xs.length), p xs[j] = false) (fun i => xs.length - i) 0 (fun j h => by omega) ⟨⟨⟨_, rfl, .refl _⟩, ⟨_, rfl, .refl _⟩, ⟨_, rfl, .refl _⟩, ⟨_, rfl, .refl _⟩, trivial⟩, .nil⟩ fun i hi => ?_
  refine go hT 10000 rfl ?_
  conv => whnf
  refine run_split rfl (fun h => ?_) (fun h => ?_)
  · simp only [decide_eq_true_eq, Int.ofNat_lt] at h
    refine go hT 10000 rfl ?_
    conv => whnf
    refine ops_g rfl (g_indexM hT rfl rfl rfl rfl rfl h rfl) ?_
    refine go hT 10000 rfl ?_
    conv => whnf
    refine ops_s rfl (s_pure hT rfl rfl rfl rfl hf hb (hp _ (List.getElem_mem h)) ?_)
    refine go hT 10000 rfl ?_
    conv => whnf
    refine run_split rfl (fun h2 => ?_) (fun h2 => ?_)
    · refine go hT 10000 rfl ?_
      conv => whnf
      refine ret_of (.tmp rfl .nil) ?_
      show V.int .i64 (i : Int) = _
      rw [idxI_hit p xs i h h2 fun j hj => hi j hj (by omega)]
    · refine go hT 10000 rfl ?_
      conv => whnf
      refine ops_g rfl (g_add rfl rfl rfl (by omega)) ?_
      refine go hT 10000 rfl ?_
      conv => whnf
      refine ⟨i + 1, fun j hj hx => ?_, by omega, ⟨⟨_, rfl, .refl _⟩, ⟨_, rfl, .refl _⟩, ⟨_, rfl, .refl _⟩, ⟨_, rfl, .refl _⟩, trivial⟩, .nil⟩
      by_cases hji : j = i
      · subst hji; exact h2
      · exact hi j (by omega) hx
  · simp only [decide_eq_false_iff_not, Int.ofNat_lt] at h
    refine go hT 10000 rfl ?_
    conv => whnf
    refine ret_of (.tmp rfl .nil) ?_
    rw [idxI_miss p xs fun j hj => hi j (by omega) hj]
    rfl
theorem containsInts {p : Int → Bool} {tok : Tok} {xs : List Int} {fid : FuncId} {first cap : List V} {fn : Func} {body : Code} (hl : xs.length < 4611686018427387904) (hf : tab.func fid = some fn) (hb : fn.body = some body)
    (hp : ∀ x ∈ xs, Pure Tryz.prog fid (first ++ [.int .i64 x] ++ cap) (.ob (p x))) : Pure Tryz.prog 163 [.slice tok (xs.map intV), .func fid first cap] (.ob (xs.any p)) := by
  refine VC.code hT 9 rfl rfl rfl rfl fun F w S0 => ?_
  refine go hT 10000 rfl ?_
  conv => whnf
  refine ops_s rfl (s_pure hT rfl rfl rfl rfl rfl rfl (indexInts hT hl hf hb hp) ?_)
  refine go hT 10000 rfl ?_
  conv => whnf
  refine ret_of (.tmp rfl .nil) ?_
  rw [← idxI_ge]; rfl
theorem indexSized {p : MSized → Bool} {tok : Tok} {xs : List MSized} {fid : FuncId} {first cap : List V} {fn : Func} {body : Code} (hl : xs.length < 4611686018427387904) (hf : tab.func fid = some fn) (hb : fn.body = some body)
    (hp : ∀ x ∈ xs, Pure Tryz.prog fid (first ++ [.agg (sizedV x)] ++ cap) (.ob (p x))) : Pure Tryz.prog 258 [.slice tok (xs.map sizedV), .func fid first cap] (.int .i64 (idxI p xs)) := by
  refine VC.code hT 19 rfl rfl rfl rfl fun F w S0 => ?_
  refine go hT 10000 rfl ?_
  conv => whnf
  refine ops_g rfl (g_len hT rfl rfl rfl rfl rfl rfl (List.length_map _)) ?_
  refine go hT 10000 rfl ?_
  conv => whnf
  refine run_lq (fun i : Nat => ([(0, .slice tok (xs.map sizedV)), (1, .func fid first cap), (7, .int .i64 xs.length), (8, .int .i64 i)], [])) (fun i => ∀ j (h : j < i) (h' : j < xs.length), p xs[j] = false) (fun i => xs.length - i) 0 (fun j h => by omega) ⟨⟨⟨_, rfl, .refl _⟩, ⟨_, rfl, .refl _⟩, ⟨_, rfl, .refl _⟩, ⟨_, rfl, .refl _⟩, trivial⟩, .nil⟩ fun i hi => ?_
  refine go hT 10000 rfl ?_
  conv => whnf
  refine run_split rfl (fun h => ?_) (fun h => ?_)
  · simp only [decide_eq_true_eq, Int.ofNat_lt] at h
    refine go hT 10000 rfl ?_
    conv => whnf
    refine ops_g rfl (g_indexM hT rfl rfl rfl rfl rfl h rfl) ?_
    refine go hT 10000 rfl ?_
    conv => whnf
    refine ops_s rfl (s_pure hT rfl rfl rfl rfl hf hb (hp _ (List.getElem_mem h)) ?_)
    refine go hT 10000 rfl ?_
    conv => whnf
    refine run_split rfl (fun h2 => ?_) (fun h2 => ?_)
    · refine go hT 10000 rfl ?_
      conv => whnf
      refine ret_of (.tmp rfl .nil) ?_
      show V.int .i64 (i : Int) = _
      rw [idxI_hit p xs i h h2 fun j hj => hi j hj (by omega)]
    · refine go hT 10000 rfl ?_
      conv => whnf
      refine ops_g rfl (g_add rfl rfl rfl (by omega)) ?_
      refine go hT 10000 rfl ?_
      conv => whnf
      refine ⟨i + 1, fun j hj hx => ?_, by omega, ⟨⟨_, rfl, .refl _⟩, ⟨_, rfl, .refl _⟩, ⟨_, rfl, .refl _⟩, ⟨_, rfl, .refl _⟩, trivial⟩, .nil⟩
      by_cases hji : j = i
      · subst hji; exact h2
      · exact hi j (by omega) hx
  · simp only [decide_eq_false_iff_not, Int.ofNat_lt] at h
    refine go hT 10000 rfl ?_
    conv => whnf
    refine ret_of (.tmp rfl .nil) ?_
    rw [idxI_miss p xs fun j hj => hi j (by omega) hj]
    rfl
theorem containsSized {p : MSized → Bool} {tok : Tok} {xs : List MSized} {fid : FuncId} {first cap : List V} {fn : Func} {body : Code} (hl : xs.length < 4611686018427387904) (hf : tab.func fid = some fn) (hb : fn.body = some body)
    (hp : ∀ x ∈ xs, Pure Tryz.prog fid (first ++ [.agg (sizedV x)] ++ cap) (.ob (p x))) : Pure Tryz.prog 207 [.slice tok (xs.map sizedV), .func fid first cap] (.ob (xs.any p)) := by
  refine VC.code hT 9 rfl rfl rfl rfl fun F w S0 => ?_
  refine go hT 10000 rfl ?_
  conv => whnf
  refine ops_s rfl (s_pure hT rfl rfl rfl rfl rfl rfl (indexSized hT hl hf hb hp) ?_)
  refine go hT 10000 rfl ?_
  conv => whnf
  refine ret_of (.tmp rfl .nil) ?_
  rw [← idxI_ge]; rfl
theorem indexOps {p : MOp → Bool} {tok : Tok} {xs : List MOp} {fid : FuncId} {first cap : List V} {fn : Func} {body : Code} (hl : xs.length < 4611686018427387904) (hf : tab.func fid = some fn) (hb : fn.body = some body)
    (hp : ∀ x ∈ xs, Pure Tryz.prog fid (first ++ [.agg (opV x)] ++ cap) (.ob (p x))) : Pure Tryz.prog 164 [.slice tok (xs.map opV), .func fid first cap] (.int .i64 (idxI p xs)) := by
  refine VC.code hT 19 rfl rfl rfl rfl fun F w S0 => ?_
  refine go hT 10000 rfl ?_
  conv => whnf
  refine ops_g rfl (g_len hT rfl rfl rfl rfl rfl rfl (List.length_map _)) ?_
  refine go hT 10000 rfl ?_
  conv => whnf
  refine run_lq (fun i : Nat => ([(0, .slice tok (xs.map opV)), (1, .func fid first cap), (7, .int .i64 xs.length), (8, .int .i64 i)], [])) (fun i => ∀ j (h : j < i) (h' : j < xs.length), p xs[j] = false) (fun i => xs.length - i) 0 (fun j h => by omega) ⟨⟨⟨_, rfl, .refl _⟩, ⟨_, rfl, .refl _⟩, ⟨_, rfl, .refl _⟩, ⟨_, rfl, .refl _⟩, trivial⟩, .nil⟩ fun i hi => ?_
  refine go hT 10000 rfl ?_
  conv => whnf
  refine run_split rfl (fun h => ?_) (fun h => ?_)
  · simp only [decide_eq_true_eq, Int.ofNat_lt] at h
    refine go hT 10000 rfl ?_
    conv => whnf
    refine ops_g rfl (g_indexM hT rfl rfl rfl rfl rfl h rfl) ?_
    refine go hT 10000 rfl ?_
    conv => whnf
    refine ops_s rfl (s_pure hT rfl rfl rfl rfl hf hb (hp _ (List.getElem_mem h)) ?_)
    refine go hT 10000 rfl ?_
    conv => whnf
    refine run_split rfl (fun h2 => ?_) (fun h2 => ?_)
    · refine go hT 10000 rfl ?_
      conv => whnf
      refine ret_of (.tmp rfl .nil) ?_
      show V.int .i64 (i : Int) = _
      rw [idxI_hit p xs i h h2 fun j hj => hi j hj (by omega)]
    · refine go hT 10000 rfl ?_
      conv => whnf
      refine ops_g rfl (g_add rfl rfl rfl (by omega)) ?_
      refine go hT 10000 rfl ?_
      conv => whnf
      refine ⟨i + 1, fun j hj hx => ?_, by omega, ⟨⟨_, rfl, .refl _⟩, ⟨_, rfl, .refl _⟩, ⟨_, rfl, .refl _⟩, ⟨_, rfl, .refl _⟩, trivial⟩, .nil⟩
      by_cases hji : j = i
      · subst hji; exact h2
      · exact hi j (by omega) hx
  · simp only [decide_eq_false_iff_not, Int.ofNat_lt] at h
    refine go hT 10000 rfl ?_
    conv => whnf
    refine ret_of (.tmp rfl .nil) ?_
    rw [idxI_miss p xs fun j hj => hi j (by omega) hj]
    rfl
theorem containsOps {p : MOp → Bool} {tok : Tok} {xs : List MOp} {fid : FuncId} {first cap : List V} {fn : Func} {body : Code} (hl : xs.length < 4611686018427387904) (hf : tab.func fid = some fn) (hb : fn.body = some body)
    (hp : ∀ x ∈ xs, Pure Tryz.prog fid (first ++ [.agg (opV x)] ++ cap) (.ob (p x))) : Pure Tryz.prog 98 [.slice tok (xs.map opV), .func fid first cap] (.ob (xs.any p)) := by
  refine VC.code hT 9 rfl rfl rfl rfl fun F w S0 => ?_
  refine go hT 10000 rfl ?_
  conv => whnf
  refine ops_s rfl (s_pure hT rfl rfl rfl rfl rfl rfl (indexOps hT hl hf hb hp) ?_)
  refine go hT 10000 rfl ?_
  conv => whnf
  refine ret_of (.tmp rfl .nil) ?_
  rw [← idxI_ge]; rfl
end
end Go.Vw
namespace Go.Vw
open Go.RowKit Go.Am Go.Proofs
attribute [local irreducible] VOps VRun VNext VD VDn VDq Ret
def belowB (m : Int) (xs : List Int) : Bool := !(xs.any fun n => decide (n < 0) || decide (m ≤ n))
theorem bltI {n m : Nat} (h : n < m) : Nat.blt n m = true := by rw [Nat.blt_eq]; exact h
section
variable [Drw] (hT : TabOk tab Tryz.prog)
include hT
theorem below1 (x m : Int) : Pure Tryz.prog 206 [.int .i64 x, .pin [.int .i64 m] 0] (.ob (decide (x < 0) || decide (m ≤ x))) := by
  refine VC.code hT 11 rfl rfl rfl rfl fun F w S0 => ?_
  refine go hT 10000 rfl ?_
  conv => whnf
  refine op_guard rfl rfl rfl rfl (fun h => ?_) (fun h => ?_)
  · refine go hT 10000 rfl ?_
    conv => whnf
    exact ret_bool rfl rfl rfl (by rw [h]; rfl)
  · refine go hT 10000 rfl ?_
    conv => whnf
    exact ret_bool rfl rfl rfl (by rw [h]; rfl)
theorem below {tok : Tok} {m : Int} {rows : List (List V)} {xs : List Int} (hx : rowsI rows = some xs) (hl : Nat.blt xs.length 4611686018427387904 = true) : Pure Tryz.prog 160 [.int .i64 m, .slice tok rows] (.ob (belowB m xs)) := by
  rw [rowsI_eq hx]
  refine VC.code hT 9 rfl rfl rfl rfl fun F w S0 => ?_
  refine go hT 10000 rfl ?_
  conv => whnf
  refine ops_s rfl (s_boxF rfl rfl rfl ?_)
  refine go hT 10000 rfl ?_
  conv => whnf
  refine ops_s rfl (s_pure hT rfl rfl rfl rfl rfl rfl (containsInts hT (by rw [Nat.blt_eq] at hl; exact hl) rfl rfl fun x _ => below1 hT x m) ?_)
  refine go hT 10000 rfl ?_
  conv => whnf
  exact ret_bool rfl rfl rfl rfl
theorem zero {tok : Tok} {rows : List (List V)} {xs : List Int} (hx : rowsI rows = some xs) (hl : Nat.blt xs.length 4611686018427387904 = true) : Pure Tryz.prog 210 [.slice tok rows] (.ob (belowB 1 xs)) := by
  refine VC.code hT 5 rfl rfl rfl rfl fun F w S0 => ?_
  refine go hT 10000 rfl ?_
  conv => whnf
  refine ops_s rfl (s_pure hT rfl rfl rfl rfl rfl rfl (below hT hx hl) ?_)
  refine go hT 10000 rfl ?_
  conv => whnf
  exact ret_bool rfl rfl rfl rfl
theorem sized1 (s : MSized) (a b : Int) : Pure Tryz.prog 208 [.agg (sizedV s), .pin [.int .i64 a] 0, .pin [.int .i64 b] 0] (.ob (decide (s.size < a) || decide (b < s.size))) := by
  refine VC.code hT 15 rfl rfl rfl rfl fun F w S0 => ?_
  refine go hT 10000 rfl ?_
  conv => whnf
  refine ops_s rfl (s_boxF rfl rfl rfl ?_)
  refine go hT 10000 rfl ?_
  conv => whnf
  refine op_guard rfl rfl rfl rfl (fun h => ?_) (fun h => ?_)
  · refine go hT 10000 rfl ?_
    conv => whnf
    exact ret_bool rfl rfl rfl (by rw [h]; rfl)
  · refine go hT 10000 rfl ?_
    conv => whnf
    exact ret_bool rfl rfl rfl (by rw [h]; rfl)
end
end Go.Vw
namespace Go.Vw
open Go.RowKit Go.Am Go.Proofs
attribute [local irreducible] VOps VRun VNext VD VDn VDq Ret
def viewV (m : MModule) (f : MFunc) (w : Int) : List V := modV m ++ (funcV f ++ [.int .i64 w])
def sizedB (l : List MSized) (count least most : Int) : Bool := decide ((l.length : Int) ≤ count) && !(l.any fun s => decide (s.size < least) || decide (most < s.size))
section
variable [Drw] (hT : TabOk tab Tryz.prog)
include hT
theorem sized {tok : Tok} {l : List MSized} (c a b : Int) (hl : l.length < 4611686018427387904) : Pure Tryz.prog 161 [.slice tok (l.map sizedV), .int .i64 c, .int .i64 a, .int .i64 b] (.ob (sizedB l c a b)) := by
  refine VC.code hT 19 rfl rfl rfl rfl fun F w S0 => ?_
  repeat' (first
    | (refine go hT 10000 rfl ?_; conv => whnf)
    | refine ops_s rfl (s_boxF rfl rfl rfl ?_)
    | refine ops_s rfl (s_listF hT rfl rfl rfl rfl rfl rfl rfl rfl ?_)
    | refine ops_g rfl (g_len hT rfl rfl rfl rfl rfl rfl (List.length_map _)) ?_
    | refine op_guard rfl rfl rfl rfl (fun h => ?_) (fun h => ?_)
    | refine ops_s rfl (s_pure hT rfl rfl rfl rfl rfl rfl (containsSized hT hl rfl rfl fun x _ => sized1 hT x a b) ?_)
    | exact ret_bool rfl rfl rfl (by simp [sizedB, *]))
theorem regs {tok : Tok} {m : MModule} {f : MFunc} {w : Int} {rows : List (List V)} {xs : List Int} (hx : rowsI rows = some xs) (hl : Nat.blt xs.length 4611686018427387904 = true) : Pure Tryz.prog 166 [.agg (viewV m f w), .slice tok rows] (.ob (belowB f.regs xs)) := by
  refine VC.code hT 10 rfl rfl rfl rfl fun F w S0 => ?_
  repeat' (first
    | (refine go hT 10000 rfl ?_; conv => whnf)
    | refine ops_s rfl (s_boxF rfl rfl rfl ?_)
    | refine ops_s rfl (s_listF hT rfl rfl rfl rfl rfl rfl rfl rfl ?_)
    | refine ops_g rfl (g_len hT rfl rfl rfl rfl rfl rfl (List.length_map _)) ?_
    | refine op_guard rfl rfl rfl rfl (fun h => ?_) (fun h => ?_)
    | refine ops_s rfl (s_pure hT rfl rfl rfl rfl rfl rfl (below hT hx hl) ?_)
    | exact ret_bool rfl rfl rfl rfl)
end
end Go.Vw
namespace Go.Vw
open Go.RowKit Go.Am Go.Proofs
attribute [local irreducible] VOps VRun VNext VD VDn VDq Ret
theorem belowB_spec {m : Int} {xs : List Int} : belowB m xs = true ↔ ∀ x ∈ xs, 0 ≤ x ∧ x < m := by
  unfold belowB
  rw [Bool.not_eq_true', List.any_eq_false]
  constructor
  · intro h x hx
    have := h x hx
    simp only [Bool.or_eq_true, decide_eq_true_eq, not_or] at this
    omega
  · intro h x hx
    have := h x hx
    simp only [Bool.or_eq_true, decide_eq_true_eq, not_or]
    omega
theorem belowB_one {m x : Int} : belowB m [x] = true ↔ 0 ≤ x ∧ x < m := by rw [belowB_spec]; simp
def wrongB (m : MModule) (x : Int) : Bool := !belowB m.funcs.length [x] || (match m.funcs[x.toNat]? with | some f => !decide (f.params = 0) | none => false)
def sumI (l : List MSized) : Int := (l.map (·.size)).sum
theorem sumI_take (l : List MSized) (i : Nat) (h : i < l.length) : sumI (l.take (i + 1)) = sumI (l.take i) + l[i].size := by
  unfold sumI
  rw [List.take_succ_eq_append_getElem h, List.map_append, List.sum_append]
  simp
theorem sumI_bound (l : List MSized) (b : Int) (hb : ∀ s ∈ l, 0 ≤ s.size ∧ s.size ≤ b) : 0 ≤ sumI l ∧ sumI l ≤ l.length * b := by
  unfold sumI
  induction l with
  | nil => simp
  | cons x l ih =>
    have h1 := hb x (by simp)
    have h2 := ih fun s hs => hb s (List.mem_cons_of_mem _ hs)
    simp only [List.map_cons, List.sum_cons, List.length_cons]
    push_cast
    rw [Int.add_mul]
    omega
section
variable [Drw] (hT : TabOk tab Tryz.prog)
include hT
theorem frame1 (m : MModule) (x : Int) : Pure Tryz.prog 162 [.int .i64 x, .pin (modV m) 0] (.ob (wrongB m x)) := by
  refine VC.code hT 20 rfl rfl rfl rfl fun F w S0 => ?_
  refine go hT 10000 rfl ?_
  conv => whnf
  refine ops_g rfl (g_len hT rfl rfl rfl rfl rfl rfl (List.length_map _)) ?_
  refine go hT 10000 rfl ?_
  conv => whnf
  refine ops_s rfl (s_listF hT rfl rfl rfl rfl rfl rfl rfl rfl ?_)
  refine go hT 10000 rfl ?_
  conv => whnf
  refine ops_s rfl (s_pure hT rfl rfl rfl rfl rfl rfl (below hT rfl rfl) ?_)
  refine go hT 10000 rfl ?_
  conv => whnf
  refine op_guard rfl rfl rfl rfl (fun h => ?_) (fun h => ?_)
  · refine go hT 10000 rfl ?_
    conv => whnf
    exact ret_bool rfl rfl rfl (by simp [wrongB, h])
  · refine go hT 10000 rfl ?_
    conv => whnf
    have hb := belowB_one.1 (by simpa using h)
    have hi : x.toNat < m.funcs.length := by omega
    refine ops_g rfl (g_index (r := funcV m.funcs[x.toNat]) hT rfl rfl rfl rfl rfl hb.1 (by rw [List.getElem?_map, List.getElem?_eq_getElem hi]; rfl) rfl) ?_
    refine go hT 10000 rfl ?_
    conv => whnf
    refine ret_bool rfl rfl rfl ?_
    simp only [wrongB, h, List.getElem?_eq_getElem hi, Bool.false_or]
theorem words (m : MModule) (hl : m.globals.length < 2000000) (hb : ∀ s ∈ m.globals, 0 ≤ s.size ∧ s.size ≤ 1000) : Pure Tryz.prog 97 [.agg (modV m)] (.int .i64 (sumI m.globals)) := by
  refine VC.code hT 19 rfl rfl rfl rfl fun F w S0 => ?_
  repeat' (first
    | (refine go hT 10000 rfl ?_; conv => whnf)
    | refine ops_s rfl (s_boxF rfl rfl rfl ?_)
    | refine ops_s rfl (s_listF hT rfl rfl rfl rfl rfl rfl rfl rfl ?_)
    | refine ops_g rfl (g_len hT rfl rfl rfl rfl rfl rfl (List.length_map _)) ?_
    | refine op_guard rfl rfl rfl rfl (fun h => ?_) (fun h => ?_))
  refine run_lq (fun i : Nat => ([(3, .int .i64 (sumI (m.globals.take i))), (7, .slice .no (m.globals.map sizedV)), (8, .int .i64 m.globals.length), (9, .int .i64 i)], [])) (fun i => True) (fun i => m.globals.length - i) 0 trivial ⟨⟨⟨_, rfl, .refl _⟩, ⟨_, rfl, .refl _⟩, ⟨_, rfl, .refl _⟩, ⟨_, rfl, .refl _⟩, trivial⟩, .nil⟩ fun i _ => ?_
  refine go hT 10000 rfl ?_
  conv => whnf
  refine run_split rfl (fun h => ?_) (fun h => ?_)
  · simp only [decide_eq_true_eq, Int.ofNat_lt] at h
    refine go hT 10000 rfl ?_
    conv => whnf
    refine ops_g rfl (g_indexM hT rfl rfl rfl rfl rfl h rfl) ?_
    refine go hT 10000 rfl ?_
    conv => whnf
    refine ops_s rfl (s_alloc hT rfl rfl rfl fun b => ?_)
    refine go hT 10000 rfl ?_
    conv => whnf
    refine ops_s rfl (s_store hT rfl rfl rfl .here rfl ?_)
    refine go hT 10000 rfl ?_
    conv => whnf
    refine ops_g rfl (g_load hT rfl rfl .here rfl) ?_
    refine go hT 10000 rfl ?_
    conv => whnf
    have h1 := sumI_bound (m.globals.take i) 1000 fun s hs => hb s (List.mem_of_mem_take hs)
    have h2 := hb _ (List.getElem_mem h)
    have h3 : (m.globals.take i).length ≤ m.globals.length := by rw [List.length_take]; omega
    refine ops_g rfl (g_add rfl rfl rfl (by omega)) ?_
    refine go hT 10000 rfl ?_
    conv => whnf
    refine ops_g rfl (g_add rfl rfl rfl (by omega)) ?_
    refine go hT 10000 rfl ?_
    conv => whnf
    refine ⟨i + 1, trivial, by omega, ⟨⟨_, rfl, by rw [sumI_take _ _ h]; exact .refl _⟩, ⟨_, rfl, .refl _⟩, ⟨_, rfl, .refl _⟩, ⟨_, rfl, .refl _⟩, trivial⟩, .nil⟩
  · simp only [decide_eq_false_iff_not, Int.ofNat_lt] at h
    refine go hT 10000 rfl ?_
    conv => whnf
    refine ret_of (.tmp rfl .nil) ?_
    rw [List.take_of_length_le (by omega)]
    rfl
end
end Go.Vw
namespace Go.Vw
open Go.RowKit Go.Am Go.Proofs
attribute [local irreducible] VOps VRun VNext VD VDn VDq Ret
def MModule.fn (m : MModule) (a : Int) : MFunc := (m.funcs[a.toNat]?).getD ⟨ByteArray.empty, 0, 0, 0, []⟩
def othersB (m : MModule) (f : MFunc) (o : MOp) : Bool :=
  if o.kind = 16 ∨ o.kind = 17 then belowB m.locks.length [o.a] && belowB 1 [o.b, o.c, o.d, o.e, o.f, o.k]
  else if o.kind = 18 then belowB m.chans.length [o.a] && belowB f.regs [o.b] && belowB 1 [o.c, o.d, o.e, o.f, o.k]
  else if o.kind = 19 then belowB f.regs [o.a] && belowB m.chans.length [o.b] && belowB 1 [o.c, o.d, o.e, o.f, o.k]
  else if o.kind = 20 then belowB m.sinks.length [o.a] && belowB f.regs [o.b] && belowB 1 [o.c, o.d, o.e, o.f, o.k]
  else if o.kind = 21 then belowB f.regs [o.a] && belowB 1 [o.b, o.c, o.d, o.e, o.f, o.k]
  else if o.kind = 22 then belowB m.funcs.length [o.a] && belowB 1 [o.c, o.d, o.e, o.f] && (if o.k = 0 then decide (o.b = -1) else decide (o.k = (m.fn o.a).result) && belowB f.regs [o.b] && decide (o.b ≤ f.regs - o.k))
  else if o.kind = 23 then belowB 1 [o.a, o.b, o.c, o.d, o.e, o.f, o.k]
  else false
def fieldsB (m : MModule) (f : MFunc) (w : Int) (o : MOp) : Bool :=
  if o.kind = 1 then belowB f.regs [o.a] && belowB 1 [o.b, o.c, o.d, o.e, o.f]
  else if o.kind = 2 then belowB f.regs [o.a] && belowB m.inputs.length [o.b] && belowB 1 [o.c, o.d, o.e, o.f, o.k]
  else if o.kind = 3 then belowB f.regs [o.a] && belowB m.hatches.length [o.b] && belowB 1 [o.c, o.d, o.e, o.f, o.k]
  else if o.kind = 4 then belowB f.regs [o.a, o.b] && belowB 1 [o.c, o.d, o.e, o.f, o.k]
  else if o.kind = 5 then belowB f.regs [o.a, o.b] && belowB 1 [o.c, o.d, o.e, o.f] && (decide (o.k = 1) || decide (o.k = 2))
  else if o.kind = 6 then belowB f.regs [o.a, o.b, o.c] && belowB 1 [o.d, o.e, o.f] && decide (1 ≤ o.k) && decide (o.k ≤ 11)
  else if o.kind = 7 then belowB f.regs [o.a] && belowB w [o.b] && belowB 1 [o.c, o.d, o.e, o.f] && belowB 2 [o.k]
  else if o.kind = 8 then belowB w [o.a] && belowB f.regs [o.b] && belowB 1 [o.c, o.d, o.e, o.f] && belowB 2 [o.k]
  else if o.kind = 9 then belowB f.regs [o.a] && belowB m.structs.length [o.b] && belowB 1 [o.c, o.d, o.e, o.f, o.k]
  else if o.kind = 10 then belowB f.regs [o.a, o.b, o.c] && !decide (o.a = o.b) && belowB 1 [o.d, o.e, o.f, o.k]
  else if o.kind = 11 then belowB f.regs [o.a, o.b] && belowB 16 [o.c] && belowB 1 [o.d, o.e, o.f] && belowB 2 [o.k]
  else if o.kind = 12 then belowB f.regs [o.a, o.c] && belowB 16 [o.b] && belowB 1 [o.d, o.e, o.f] && belowB 2 [o.k]
  else if o.kind = 13 ∨ o.kind = 14 then belowB f.regs [o.a, o.b, o.c, o.d] && belowB 1 [o.e, o.f, o.k]
  else if o.kind = 15 then belowB f.regs [o.a, o.b, o.c, o.d, o.e, o.f] && !decide (o.a = o.b) && belowB 1 [o.k]
  else othersB m f o
theorem nf {b : Bool} (h : (!b) = false) : b = true := by simpa using h
structure OkF (f : MFunc) : Prop where
  regs : 0 ≤ f.regs ∧ f.regs ≤ 1024
  result : 0 ≤ f.result ∧ f.result ≤ 2
  params : 0 ≤ f.params ∧ f.params ≤ f.regs
  code : 0 < f.code.length ∧ f.code.length ≤ 4096
theorem MModule.fn_ok {m : MModule} (hm : ∀ f ∈ m.funcs, OkF f) {a : Int} (h : belowB m.funcs.length [a] = true) : OkF (m.fn a) := by
  have hb := belowB_one.1 h
  have hi : a.toNat < m.funcs.length := by omega
  unfold MModule.fn
  rw [List.getElem?_eq_getElem hi]
  exact hm _ (List.getElem_mem hi)
section
variable {S : Hp} {o : Oper} {ρ : Operand → Option V}
theorem g_funcs (hT : TabOk tab Tryz.prog) {m : MModule} {a : Int} {tok : Tok} {x ix : Operand} {κ : IntKind} (ho : o.op = .indexAddr 24 x ix) (hx : ρ x = some (.slice tok (m.funcs.map funcV))) (hi : ρ ix = some (.int κ a)) (hb : belowB m.funcs.length [a] = true) : QG Tryz.prog o ρ S (.pin (funcV (m.fn a)) 0) := by
  have hb := belowB_one.1 hb
  have hi' : a.toNat < m.funcs.length := by omega
  refine g_index (r := funcV (m.fn a)) hT ho rfl rfl hx hi hb.1 ?_ rfl
  unfold MModule.fn
  rw [List.getElem?_map, List.getElem?_eq_getElem hi']; rfl
end
section
variable [Drw] (hT : TabOk tab Tryz.prog)
include hT
set_option maxHeartbeats 1000000 in
theorem others (m : MModule) (f : MFunc) (w : Int) (o : MOp) (hf : OkF f) (hm : ∀ f ∈ m.funcs, OkF f) : Pure Tryz.prog 211 [.agg (viewV m f w), .agg (opV o)] (.ob (othersB m f o)) := by
  refine VC.code hT 227 rfl rfl rfl rfl fun F W S0 => ?_
  repeat' (first
    | (refine go hT 10000 rfl ?_; conv => whnf)
    | refine ops_s rfl (s_boxF rfl rfl rfl ?_)
    | refine ops_s rfl (s_listF hT rfl rfl rfl rfl rfl rfl rfl rfl ?_)
    | refine ops_g rfl (g_len hT rfl rfl rfl rfl rfl rfl (List.length_map _)) ?_
    | refine op_guard rfl rfl rfl rfl (fun h => ?_) (fun h => ?_)
    | refine run_split rfl (fun h => ?_) (fun h => ?_)
    | refine ops_s rfl (s_pure hT rfl rfl rfl rfl rfl rfl (zero hT rfl rfl) ?_)
    | refine ops_s rfl (s_pure hT rfl rfl rfl rfl rfl rfl (below hT rfl rfl) ?_)
    | refine ops_s rfl (s_pure hT rfl rfl rfl rfl rfl rfl (regs hT (m := m) (f := f) (w := w) rfl rfl) ?_)
    | refine ops_g rfl (g_funcs hT rfl rfl rfl (nf (by assumption))) ?_
    | exact ret_bool rfl rfl rfl (by simp_all [othersB]))
  have hb : belowB m.funcs.length [o.a] = true := nf (by assumption)
  have hg := MModule.fn_ok hm hb
  refine run_drw hT rfl rfl ?_
  repeat' (first
    | refine vd_fin rfl ?_
    | (refine god hT 2 rfl ?_; conv => whnf)
    | refine q_g rfl (fun S' => s_listF hT rfl rfl rfl rfl rfl rfl rfl rfl ⟨rfl, rfl⟩) ?_
    | refine q_g rfl (fun S' => s_pure hT rfl rfl rfl rfl rfl rfl (regs hT (m := m) (f := f) (w := w) rfl rfl) ⟨rfl, rfl⟩) ?_
    | refine q_g rfl (fun S' => (g_funcs hT rfl rfl rfl hb).qs) ?_
    | refine q_g rfl (fun S' => (g_sub rfl rfl rfl (by have h1 := hg.result; have h2 := hf.regs; have h3 : o.k = (m.fn o.a).result := of_decide_eq_true (by assumption); omega)).qs) ?_
    | refine q_guard rfl rfl rfl rfl (fun h => ?_) (fun h => ?_)
    | (refine go hT 10000 rfl ?_; conv => whnf)
    | exact ret_bool rfl rfl rfl (by simp_all [othersB]))
  all_goals trace_state
end
end Go.Vw
namespace Go.Vw
open Go.RowKit Go.Am Go.Proofs
attribute [local irreducible] VOps VRun VNext VD VDn VDq Ret
section
variable [Drw] (hT : TabOk tab Tryz.prog)
include hT
set_option maxHeartbeats 2000000 in
theorem fields (m : MModule) (f : MFunc) (w : Int) (o : MOp) (hf : OkF f) (hm : ∀ f ∈ m.funcs, OkF f) : Pure Tryz.prog 165 [.agg (viewV m f w), .agg (opV o)] (.ob (fieldsB m f w o)) := by
  refine VC.code hT 421 rfl rfl rfl rfl fun F W S0 => ?_
  repeat' (first
    | (refine go hT 10000 rfl ?_; conv => whnf)
    | refine ops_s rfl (s_boxF rfl rfl rfl ?_)
    | refine ops_s rfl (s_listF hT rfl rfl rfl rfl rfl rfl rfl rfl ?_)
    | refine ops_g rfl (g_len hT rfl rfl rfl rfl rfl rfl (List.length_map _)) ?_
    | refine op_guard rfl rfl rfl rfl (fun h => ?_) (fun h => ?_)
    | refine run_split rfl (fun h => ?_) (fun h => ?_)
    | refine ops_s rfl (s_pure hT rfl rfl rfl rfl rfl rfl (zero hT rfl rfl) ?_)
    | refine ops_s rfl (s_pure hT rfl rfl rfl rfl rfl rfl (below hT rfl rfl) ?_)
    | refine ops_s rfl (s_pure hT rfl rfl rfl rfl rfl rfl (regs hT (m := m) (f := f) (w := w) rfl rfl) ?_)
    | refine ops_s rfl (s_pure hT rfl rfl rfl rfl rfl rfl (others hT m f w o hf hm) ?_)
    | exact ret_bool rfl rfl rfl (by simp_all [fieldsB] <;> omega))
end
end Go.Vw
namespace Go.Vw
open Go.RowKit Go.Am Go.Proofs
attribute [local irreducible] VOps VRun VNext VD VDn VDq Ret
def rightArgs (m : MModule) (f : MFunc) (o : MOp) : Int := if o.kind = 22 then (m.fn o.a).params else if o.kind = 23 then f.result else 0
def rightB (m : MModule) (f : MFunc) (w : Int) (o : MOp) : Bool := fieldsB m f w o && belowB f.regs o.args && decide ((o.args.length : Int) = rightArgs m f o) && belowB (if o.kind = 23 then 1 else f.code.length) [o.next] && belowB (if o.kind = 21 then f.code.length else 1) [o.els]
theorem call_in {m : MModule} {f : MFunc} {w : Int} {o : MOp} (h : fieldsB m f w o = true) (hk : o.kind = 22) : belowB m.funcs.length [o.a] = true := by
  simp only [fieldsB, othersB, hk] at h
  simp at h
  exact h.1.1
section
variable [Drw] (hT : TabOk tab Tryz.prog)
include hT
set_option maxHeartbeats 2000000 in
theorem right (m : MModule) (f : MFunc) (w : Int) (o : MOp) (hf : OkF f) (hm : ∀ f ∈ m.funcs, OkF f) (hl : o.args.length < 2000000) : Pure Tryz.prog 100 [.agg (viewV m f w), .agg (opV o)] (.ob (rightB m f w o)) := by
  refine VC.code hT 64 rfl rfl rfl rfl fun F W S0 => ?_
  repeat' (first
    | (refine go hT 10000 rfl ?_; conv => whnf)
    | refine ops_s rfl (s_boxF rfl rfl rfl ?_)
    | refine ops_s rfl (s_listF hT rfl rfl rfl rfl rfl rfl rfl rfl ?_)
    | refine ops_g rfl (g_len hT rfl rfl rfl rfl rfl rfl (List.length_map _)) ?_
    | refine op_guard rfl rfl rfl rfl (fun h => ?_) (fun h => ?_)
    | refine run_split rfl (fun h => ?_) (fun h => ?_)
    | refine ops_s rfl (s_pure hT rfl rfl rfl rfl rfl rfl (below hT rfl rfl) ?_)
    | refine ops_s rfl (s_pure hT rfl rfl rfl rfl rfl rfl (regs hT (m := m) (f := f) (w := w) (rowsI_map o.args) (bltI (by omega))) ?_)
    | refine ops_s rfl (s_pure hT rfl rfl rfl rfl rfl rfl (fields hT m f w o hf hm) ?_)
    | refine ops_g rfl (g_funcs hT rfl rfl rfl (call_in (nf (by assumption)) (of_decide_eq_true (by assumption)))) ?_
    | exact ret_bool rfl rfl rfl (by simp_all [rightB, rightArgs] <;> omega))
  all_goals trace_state
theorem right1 (m : MModule) (f : MFunc) (w : Int) (o : MOp) (hf : OkF f) (hm : ∀ f ∈ m.funcs, OkF f) (hl : o.args.length < 2000000) : Pure Tryz.prog 99 [.agg (opV o), .pin (viewV m f w) 0] (.ob (!rightB m f w o)) := by
  refine VC.code hT 8 rfl rfl rfl rfl fun F W S0 => ?_
  repeat' (first
    | (refine go hT 10000 rfl ?_; conv => whnf)
    | refine ops_s rfl (s_boxF rfl rfl rfl ?_)
    | refine ops_s rfl (s_listF hT rfl rfl rfl rfl rfl rfl rfl rfl ?_)
    | refine ops_g rfl (g_len hT rfl rfl rfl rfl rfl rfl (List.length_map _)) ?_
    | refine op_guard rfl rfl rfl rfl (fun h => ?_) (fun h => ?_)
    | refine run_split rfl (fun h => ?_) (fun h => ?_)
    | refine ops_s rfl (s_pure hT rfl rfl rfl rfl rfl rfl (right hT m f w o hf hm hl) ?_)
    | exact ret_bool rfl rfl rfl rfl)
end
end Go.Vw
namespace Go.Vw
open Go.RowKit Go.Am Go.Proofs
attribute [local irreducible] VOps VRun VNext VD VDn VDq Ret
def okFB (f : MFunc) : Bool := belowB 1025 [f.regs] && belowB (f.regs + 1) [f.params] && belowB 3 [f.result] && !decide ((f.code.length : Int) = 0) && !decide (4096 < (f.code.length : Int))
theorem okFB_spec {f : MFunc} (h : okFB f = true) : OkF f := by
  simp only [okFB, Bool.and_eq_true, belowB_one, Bool.not_eq_true', decide_eq_false_iff_not] at h
  obtain ⟨⟨⟨⟨h1, h2⟩, h3⟩, h4⟩, h5⟩ := h
  exact ⟨by omega, by omega, by omega, by omega⟩
def codeSum (l : List MFunc) : Int := (l.map fun f => (f.code.length : Int)).sum
theorem codeSum_take (l : List MFunc) (i : Nat) (h : i < l.length) : codeSum (l.take (i + 1)) = codeSum (l.take i) + l[i].code.length := by
  unfold codeSum
  rw [List.take_succ_eq_append_getElem h, List.map_append, List.sum_append]
  simp
theorem codeSum_bound (l : List MFunc) (hb : ∀ f ∈ l, okFB f = true) : 0 ≤ codeSum l ∧ codeSum l ≤ l.length * 4096 := by
  unfold codeSum
  induction l with
  | nil => simp
  | cons x l ih =>
    have h1 := (okFB_spec (hb x (by simp))).code
    have h2 := ih fun s hs => hb s (List.mem_cons_of_mem _ hs)
    simp only [List.map_cons, List.sum_cons, List.length_cons]
    push_cast
    rw [Int.add_mul]
    omega
def countsB (m : MModule) : Bool := sizedB m.globals 16 1 2 && sizedB m.structs 4 0 16 && sizedB m.chans 4 1 4
def namesB (m : MModule) : Bool := decide ((m.locks.length : Int) ≤ 8) && decide ((m.inputs.length : Int) ≤ 8) && decide ((m.sinks.length : Int) ≤ 4) && decide ((m.hatches.length : Int) ≤ 8)
def frameB (m : MModule) : Bool := m.funcs.all okFB && (countsB m && namesB m && decide (1 ≤ (m.funcs.length : Int)) && decide ((m.funcs.length : Int) ≤ 12) && decide ((m.threads.length : Int) ≤ 4) && decide (codeSum m.funcs ≤ 4096) && !m.threads.any (wrongB m))
/-- No list is beyond bounds. -/
structure Small (m : MModule) : Prop where
  globals : m.globals.length < 2000000
  structs : m.structs.length < 2000000
  chans : m.chans.length < 2000000
  locks : m.locks.length < 2000000
  inputs : m.inputs.length < 2000000
  sinks : m.sinks.length < 2000000
  hatches : m.hatches.length < 2000000
  funcs : m.funcs.length < 2000000
  threads : m.threads.length < 2000000
  code : ∀ f ∈ m.funcs, f.code.length < 2000000
  args : ∀ f ∈ m.funcs, ∀ o ∈ f.code, o.args.length < 2000000
theorem bad_all {m : MModule} {i : Nat} (h : i < m.funcs.length) (hb : okFB m.funcs[i] = false) : frameB m = false := by
  have : m.funcs.all okFB = false := by
    rw [List.all_eq_false]
    exact ⟨_, List.getElem_mem h, by simp [hb]⟩
  simp [frameB, this]
section
variable [Drw] (hT : TabOk tab Tryz.prog)
include hT
set_option maxHeartbeats 2000000 in
theorem frame (m : MModule) (hs : Small m) : Pure Tryz.prog 96 [.agg (modV m)] (.ob (frameB m)) := by
  refine VC.code hT 125 rfl rfl rfl rfl fun F W S0 => ?_
  repeat' (first
    | (refine go hT 10000 rfl ?_; conv => whnf)
    | refine ops_s rfl (s_boxF rfl rfl rfl ?_)
    | refine ops_s rfl (s_listF hT rfl rfl rfl rfl rfl rfl rfl rfl ?_)
    | refine ops_g rfl (g_len hT rfl rfl rfl rfl rfl rfl (List.length_map _)) ?_
    | refine op_guard rfl rfl rfl rfl (fun h => ?_) (fun h => ?_))
  refine run_lq (fun i : Nat => ([(1, .pin (modV m) 0), (3, .int .i64 (codeSum (m.funcs.take i))), (10, .slice .no (m.funcs.map funcV)), (11, .int .i64 m.funcs.length), (12, .int .i64 i)], [])) (fun i => ∀ f ∈ m.funcs.take i, okFB f = true) (fun i => m.funcs.length - i) 0 (fun f hf => by simp at hf) ⟨⟨⟨_, rfl, .refl _⟩, ⟨_, rfl, .refl _⟩, ⟨_, rfl, .refl _⟩, ⟨_, rfl, .refl _⟩, ⟨_, rfl, .refl _⟩, trivial⟩, .nil⟩ fun i hi => ?_
  have hsf := hs.funcs
  refine go hT 10000 rfl ?_
  conv => whnf
  refine run_split rfl (fun hlt => ?_) (fun hlt => ?_)
  · simp only [decide_eq_true_eq, Int.ofNat_lt] at hlt
    refine go hT 10000 rfl ?_
    conv => whnf
    refine ops_g rfl (g_indexM hT rfl rfl rfl rfl rfl hlt rfl) ?_
    refine go hT 10000 rfl ?_
    conv => whnf
    refine ops_s rfl (s_alloc hT rfl rfl rfl fun b => ?_)
    refine go hT 10000 rfl ?_
    conv => whnf
    refine ops_s rfl (s_store (cs' := funcV m.funcs[i]) hT rfl rfl rfl .here rfl ?_)
    refine ops_freeze (t := 5) rfl .here ?_
    have h1 := codeSum_bound _ hi
    have h3 : (m.funcs.take i).length ≤ m.funcs.length := by rw [List.length_take]; omega
    have h4 := hs.code _ (List.getElem_mem hlt)
    repeat' (first
      | (refine go hT 10000 rfl ?_; conv => whnf)
      | refine ops_s rfl (s_boxF rfl rfl rfl ?_)
      | refine ops_s rfl (s_listF hT rfl rfl rfl rfl rfl rfl rfl rfl ?_)
      | refine ops_g rfl (g_len hT rfl rfl rfl rfl rfl rfl (List.length_map _)) ?_
      | refine op_guard rfl rfl rfl rfl (fun h => ?_) (fun h => ?_)
      | refine run_split rfl (fun h => ?_) (fun h => ?_)
      | refine ops_s rfl (s_pure hT rfl rfl rfl rfl rfl rfl (below hT rfl rfl) ?_)
      | refine ops_g rfl (g_add rfl rfl rfl (by omega)) ?_
      | refine ops_g rfl (g_add rfl rfl rfl (by have := belowB_one.1 (nf (by assumption) : belowB 1025 [_] = true); omega)) ?_
      | exact ret_bool rfl rfl rfl (by rw [bad_all hlt (by simp only [Bool.not_eq_true', Bool.not_eq_false'] at *; simp only [okFB, *, Bool.and_true, Bool.true_and, Bool.and_false, Bool.false_and, Bool.not_true, Bool.not_false])]))
    refine ⟨i + 1, ?_, by omega, ⟨⟨_, rfl, .refl _⟩, ⟨_, rfl, by rw [codeSum_take _ _ hlt]; exact .refl _⟩, ⟨_, rfl, .refl _⟩, ⟨_, rfl, .refl _⟩, ⟨_, rfl, .refl _⟩, trivial⟩, .nil⟩
    have hok : okFB m.funcs[i] = true := by simp only [Bool.not_eq_true', Bool.not_eq_false'] at *; simp only [okFB, *, Bool.and_true, Bool.true_and, Bool.and_false, Bool.false_and, Bool.not_true, Bool.not_false]
    intro f hf
    rw [List.take_succ_eq_append_getElem hlt] at hf
    rcases List.mem_append.1 hf with hf | hf
    · exact hi f hf
    · rw [List.mem_singleton.1 hf]; exact hok
  · simp only [decide_eq_false_iff_not, Int.ofNat_lt] at hlt
    have e : m.funcs.take i = m.funcs := List.take_of_length_le (by omega)
    rw [e] at hi
    have hall : m.funcs.all okFB = true := by rw [List.all_eq_true]; exact hi
    have h1 := hs.globals
    have h2 := hs.structs
    have h3 := hs.chans
    have h4 := hs.threads
    repeat' (first
      | (refine go hT 10000 rfl ?_; conv => whnf)
      | refine ops_s rfl (s_boxF rfl rfl rfl ?_)
      | refine ops_s rfl (s_listF hT rfl rfl rfl rfl rfl rfl rfl rfl ?_)
      | refine ops_g rfl (g_len hT rfl rfl rfl rfl rfl rfl (List.length_map _)) ?_
      | refine op_guard rfl rfl rfl rfl (fun h => ?_) (fun h => ?_)
      | refine run_split rfl (fun h => ?_) (fun h => ?_)
      | refine ops_s rfl (s_pure hT rfl rfl rfl rfl rfl rfl (sized hT _ _ _ (by omega)) ?_)
      | refine ops_s rfl (s_pure hT rfl rfl rfl rfl rfl rfl (containsInts hT (by omega) rfl rfl fun x _ => frame1 hT m x) ?_)
      | exact ret_bool rfl rfl rfl (by (try simp only [e] at *); simp only [frameB, countsB, namesB, *, Bool.and_true, Bool.true_and, Bool.and_false, Bool.false_and, Bool.not_true, Bool.not_false]))
    trace_state
end
end Go.Vw
namespace Go.Vw
open Go.RowKit Go.Am Go.Proofs
attribute [local irreducible] VOps VRun VNext VD VDn VDq Ret
def rightModB (m : MModule) : Bool := frameB m && m.funcs.all fun f => f.code.all (rightB m f (sumI m.globals))
theorem frame_ok {m : MModule} (h : frameB m = true) : (∀ f ∈ m.funcs, OkF f) ∧ (∀ s ∈ m.globals, 0 ≤ s.size ∧ s.size ≤ 1000) := by
  simp only [frameB, countsB, sizedB, Bool.and_eq_true] at h
  refine ⟨fun f hf => okFB_spec (List.all_eq_true.1 h.1 f hf), fun s hs => ?_⟩
  have h1 := h.2.1.1.1.1.1.1.1.1.2
  rw [Bool.not_eq_true', List.any_eq_false] at h1
  have := h1 s hs
  simp only [Bool.or_eq_true, decide_eq_true_eq, not_or] at this
  omega
theorem any_not {α : Type} (p : α → Bool) (l : List α) : l.any (fun x => !p x) = !l.all p := by
  induction l with
  | nil => rfl
  | cons x l ih => simp only [List.any_cons, List.all_cons, ih, Bool.not_and]
section
variable [Drw] (hT : TabOk tab Tryz.prog)
include hT
set_option maxHeartbeats 2000000 in
theorem codeRight (m : MModule) (hs : Small m) : Pure Tryz.prog 59 [.agg (modV m)] (.ob (rightModB m)) := by
  refine VC.code hT 26 rfl rfl rfl rfl fun F W S0 => ?_
  have hsf := hs.funcs
  refine go hT 10000 rfl ?_
  conv => whnf
  refine ops_s rfl (s_boxF rfl rfl rfl ?_)
  refine go hT 10000 rfl ?_
  conv => whnf
  refine ops_s rfl (s_pure hT rfl rfl rfl rfl rfl rfl (frame hT m hs) ?_)
  refine go hT 10000 rfl ?_
  conv => whnf
  refine run_split rfl (fun h => ?_) (fun h => ?_)
  · refine go hT 10000 rfl ?_
    conv => whnf
    exact ret_bool rfl rfl rfl (by simp only [Bool.not_eq_true'] at h; simp [rightModB, h])
  have hfr := nf h
  obtain ⟨hm, hg⟩ := frame_ok hfr
  repeat' (first
    | (refine go hT 10000 rfl ?_; conv => whnf)
    | refine ops_s rfl (s_boxF rfl rfl rfl ?_)
    | refine ops_s rfl (s_listF hT rfl rfl rfl rfl rfl rfl rfl rfl ?_)
    | refine ops_g rfl (g_len hT rfl rfl rfl rfl rfl rfl (List.length_map _)) ?_
    | refine op_guard rfl rfl rfl rfl (fun h => ?_) (fun h => ?_))
  refine run_lq (fun i : Nat => ([(1, .pin (modV m) 0), (10, .slice .no (m.funcs.map funcV)), (11, .int .i64 m.funcs.length), (12, .int .i64 i)], [])) (fun i => ∀ f ∈ m.funcs.take i, f.code.all (rightB m f (sumI m.globals)) = true) (fun i => m.funcs.length - i) 0 (fun f hf => by simp at hf) ⟨⟨⟨_, rfl, .refl _⟩, ⟨_, rfl, .refl _⟩, ⟨_, rfl, .refl _⟩, ⟨_, rfl, .refl _⟩, trivial⟩, .nil⟩ fun i hi => ?_
  refine go hT 10000 rfl ?_
  conv => whnf
  refine run_split rfl (fun hlt => ?_) (fun hlt => ?_)
  · simp only [decide_eq_true_eq, Int.ofNat_lt] at hlt
    have hin := List.getElem_mem hlt
    refine go hT 10000 rfl ?_
    conv => whnf
    refine ops_g rfl (g_indexM hT rfl rfl rfl rfl rfl hlt rfl) ?_
    refine go hT 10000 rfl ?_
    conv => whnf
    refine ops_s rfl (s_alloc hT rfl rfl rfl fun b => ?_)
    refine go hT 10000 rfl ?_
    conv => whnf
    refine ops_s rfl (s_store (cs' := funcV m.funcs[i]) hT rfl rfl rfl .here rfl ?_)
    refine ops_freeze (t := 4) rfl .here ?_
    refine go hT 10000 rfl ?_
    conv => whnf
    refine run_drw hT rfl rfl ?_
    refine god hT 2 rfl ?_
    conv => whnf
    refine q_g rfl (fun S' => s_pure hT rfl rfl rfl rfl rfl rfl (words hT m hs.globals hg) ⟨rfl, rfl⟩) ?_
    refine god hT 2 rfl ?_
    conv => whnf
    refine vd_eff1 rfl (eff rfl rfl (s_alloc hT rfl rfl rfl fun b => ⟨trivial, ?_⟩))
    refine god hT 2 rfl ?_
    conv => whnf
    refine vd_eff1 rfl (eff rfl rfl (s_store (cs' := viewV m m.funcs[i] (sumI m.globals)) hT rfl rfl rfl .here rfl ⟨trivial, ?_⟩))
    refine god hT 2 rfl ?_
    conv => whnf
    refine vd_fin rfl ?_
    refine next_freeze (t := 5) rfl .here ?_
    refine go hT 10000 rfl ?_
    conv => whnf
    refine ops_s rfl (s_pure hT rfl rfl rfl rfl rfl rfl (containsOps (p := fun o => !rightB m m.funcs[i] (sumI m.globals) o) hT (by have := hs.code _ hin; omega) rfl rfl fun o ho => right1 hT m m.funcs[i] (sumI m.globals) o (hm _ hin) hm (hs.args _ hin o ho)) ?_)
    refine go hT 10000 rfl ?_
    conv => whnf
    refine run_split rfl (fun h2 => ?_) (fun h2 => ?_)
    · refine go hT 10000 rfl ?_
      conv => whnf
      refine ret_bool rfl rfl rfl ?_
      rw [any_not, Bool.not_eq_true'] at h2
      have : (m.funcs.all fun f => f.code.all (rightB m f (sumI m.globals))) = false := by
        rw [List.all_eq_false]
        exact ⟨_, hin, by simp [h2]⟩
      simp only [rightModB, this, Bool.and_false]
    · refine go hT 10000 rfl ?_
      conv => whnf
      refine ops_g rfl (g_add rfl rfl rfl (by omega)) ?_
      refine go hT 10000 rfl ?_
      conv => whnf
      refine ⟨i + 1, ?_, by omega, ⟨⟨_, rfl, .refl _⟩, ⟨_, rfl, .refl _⟩, ⟨_, rfl, .refl _⟩, ⟨_, rfl, .refl _⟩, trivial⟩, .nil⟩
      rw [any_not, Bool.not_eq_false'] at h2
      intro f hf
      rw [List.take_succ_eq_append_getElem hlt] at hf
      rcases List.mem_append.1 hf with hf | hf
      · exact hi f hf
      · rw [List.mem_singleton.1 hf]; exact h2
  · simp only [decide_eq_false_iff_not, Int.ofNat_lt] at hlt
    have e : m.funcs.take i = m.funcs := List.take_of_length_le (by omega)
    rw [e] at hi
    refine go hT 10000 rfl ?_
    conv => whnf
    refine ret_bool rfl rfl rfl ?_
    have : (m.funcs.all fun f => f.code.all (rightB m f (sumI m.globals))) = true := by rw [List.all_eq_true]; exact hi
    simp only [rightModB, hfr, this, Bool.and_true]
end
end Go.Vw
namespace Go.Vw
open Go.RowKit Go.Am Go.Proofs
attribute [local irreducible] VOps VRun VNext VD VDn VDq Ret
/-- A call that answers something of a kind, and looks at nothing that is told. -/
def PureR [Drw] (P : Program) (f : FuncId) (args : List V) (R : V → Prop) : Prop := VC P f args [] fun v _ => R v
theorem PureR.call [Drw] {P : Program} {f : FuncId} {args : List V} {R : V → Prop} {S : Hp} {Q : V → Hp → Prop} (h : PureR P f args R) (k : ∀ v, R v → Q v S) : VC P f args S Q := fun F w us s a => by
  refine ((VC.frame h S) F w us s a).mono ?_
  rintro e w' ⟨v', u, F', S', e1, e2, e3, e4, S1, rfl, hv⟩
  exact ⟨v', u, F', S, e1, e2, e3.sub (List.sublist_append_right _ _), e4.sub (List.sublist_append_right _ _), k v' hv⟩
theorem s_pureR [Drw] {P : Program} {S : Hp} {tb : Tab} {o : Oper} {ρ : Operand → Option V} {k : V → Hp → Prop} (hT : TabOk tb P) {c : Call} {x : Operand} {f : FuncId} {first cap args : List V} {fn : Func} {body : Code} {R : V → Prop} (ho : o.op = .call c) (hc : c.callee = .value x) (hx : ρ x = some (.func f first cap)) (ha : valsV ρ c.args.toList = some args) (hf : tb.func f = some fn) (hb : fn.body = some body)
    (h : PureR P f (first ++ args ++ cap) R) (hk : ∀ v, R v → k v S) : OpS P o ρ S k := s_call hT ho hc hx ha hf hb (h.call hk)
def isN (B : Int) (v : V) : Prop := ∃ n : Int, v = .int .i64 n ∧ 0 ≤ n ∧ n ≤ B
def isB (v : V) : Prop := ∃ b, v = .ob b
/-- No name is beyond bounds. -/
structure SmallN (m : MModule) : Prop where
  globals : ∀ s ∈ m.globals, s.name.size < 2000000
  structs : ∀ s ∈ m.structs, s.name.size < 2000000
  chans : ∀ s ∈ m.chans, s.name.size < 2000000
  locks : ∀ s ∈ m.locks, s.size < 2000000
  inputs : ∀ s ∈ m.inputs, s.size < 2000000
  sinks : ∀ s ∈ m.sinks, s.size < 2000000
  hatches : ∀ s ∈ m.hatches, s.size < 2000000
  funcs : ∀ f ∈ m.funcs, f.name.size < 2000000
section
variable [Drw] (hT : TabOk tab Tryz.prog)
include hT
theorem weighSized {tok : Tok} (l : List MSized) (n : Int) (hn : 0 ≤ n ∧ n ≤ 100000000000) (hl : l.length < 2000000) (hs : ∀ s ∈ l, s.name.size < 2000000) : PureR Tryz.prog 80 [.slice tok (l.map sizedV), .int .i64 n, .int .i64 2000] (isN 100000000000) := by
  refine VC.code hT 28 rfl rfl rfl rfl fun F W S0 => ?_
  refine go hT 10000 rfl ?_
  conv => whnf
  refine run_lq (fun x : Nat × Int => ([(0, .slice tok (l.map sizedV)), (1, .int .i64 x.2), (2, .int .i64 2000), (7, .int .i64 x.1)], [])) (fun x => 0 ≤ x.2 ∧ x.2 ≤ 100000000000) (fun x => l.length - x.1) (0, n) hn ⟨⟨⟨_, rfl, .refl _⟩, ⟨_, rfl, .refl _⟩, ⟨_, rfl, .refl _⟩, ⟨_, rfl, .refl _⟩, trivial⟩, .nil⟩ fun ⟨i, n⟩ hi => ?_
  refine go hT 10000 rfl ?_
  conv => whnf
  refine ops_g rfl (g_len hT rfl rfl rfl rfl rfl rfl (List.length_map _)) ?_
  refine go hT 10000 rfl ?_
  conv => whnf
  refine op_guard rfl rfl rfl rfl (fun hlt => ?_) (fun hlt => ?_)
  · simp only [decide_eq_true_eq, Int.ofNat_lt] at hlt
    refine go hT 10000 rfl ?_
    conv => whnf
    refine run_split rfl (fun h2 => ?_) (fun h2 => ?_)
    · have h2 := of_decide_eq_true h2
      have h3 := hs _ (List.getElem_mem hlt)
      refine go hT 10000 rfl ?_
      conv => whnf
      refine ops_g rfl (g_indexM hT rfl rfl rfl rfl rfl hlt rfl) ?_
      refine go hT 10000 rfl ?_
      conv => whnf
      refine ops_g rfl (g_lenStr hT rfl rfl rfl rfl rfl rfl) ?_
      refine go hT 10000 rfl ?_
      conv => whnf
      refine ops_g rfl (g_add rfl rfl rfl (by omega)) ?_
      refine go hT 10000 rfl ?_
      conv => whnf
      refine ops_g rfl (g_add rfl rfl rfl (by omega)) ?_
      refine go hT 10000 rfl ?_
      conv => whnf
      exact ⟨(i + 1, n + (l[i].name.size : Int)), by dsimp only; omega, by dsimp only; omega, ⟨⟨_, rfl, .refl _⟩, ⟨_, rfl, .refl _⟩, ⟨_, rfl, .refl _⟩, ⟨_, rfl, .refl _⟩, trivial⟩, .nil⟩
    · refine go hT 10000 rfl ?_
      conv => whnf
      exact ret_of (.tmp rfl .nil) ⟨_, rfl, hi⟩
  · refine go hT 10000 rfl ?_
    conv => whnf
    exact ret_of (.tmp rfl .nil) ⟨_, rfl, hi⟩
theorem weighTexts {tok : Tok} (l : List ByteArray) (n : Int) (hn : 0 ≤ n ∧ n ≤ 100000000000) (hl : l.length < 2000000) (hs : ∀ s ∈ l, s.size < 2000000) : PureR Tryz.prog 81 [.slice tok (l.map strV), .int .i64 n, .int .i64 2000] (isN 100000000000) := by
  refine VC.code hT 27 rfl rfl rfl rfl fun F W S0 => ?_
  refine go hT 10000 rfl ?_
  conv => whnf
  refine run_lq (fun x : Nat × Int => ([(0, .slice tok (l.map strV)), (1, .int .i64 x.2), (2, .int .i64 2000), (7, .int .i64 x.1)], [])) (fun x => 0 ≤ x.2 ∧ x.2 ≤ 100000000000) (fun x => l.length - x.1) (0, n) hn ⟨⟨⟨_, rfl, .refl _⟩, ⟨_, rfl, .refl _⟩, ⟨_, rfl, .refl _⟩, ⟨_, rfl, .refl _⟩, trivial⟩, .nil⟩ fun ⟨i, n⟩ hi => ?_
  refine go hT 10000 rfl ?_
  conv => whnf
  refine ops_g rfl (g_len hT rfl rfl rfl rfl rfl rfl (List.length_map _)) ?_
  refine go hT 10000 rfl ?_
  conv => whnf
  refine op_guard rfl rfl rfl rfl (fun hlt => ?_) (fun hlt => ?_)
  · simp only [decide_eq_true_eq, Int.ofNat_lt] at hlt
    refine go hT 10000 rfl ?_
    conv => whnf
    refine run_split rfl (fun h2 => ?_) (fun h2 => ?_)
    · have h2 := of_decide_eq_true h2
      have h3 := hs _ (List.getElem_mem hlt)
      refine go hT 10000 rfl ?_
      conv => whnf
      refine ops_g rfl (g_indexM hT rfl rfl rfl rfl rfl hlt rfl) ?_
      refine go hT 10000 rfl ?_
      conv => whnf
      refine ops_g rfl (g_lenStr (s := l[i]) hT rfl rfl rfl rfl rfl rfl) ?_
      refine go hT 10000 rfl ?_
      conv => whnf
      refine ops_g rfl (g_add rfl rfl rfl (by omega)) ?_
      refine go hT 10000 rfl ?_
      conv => whnf
      refine ops_g rfl (g_add rfl rfl rfl (by omega)) ?_
      refine go hT 10000 rfl ?_
      conv => whnf
      exact ⟨(i + 1, n + (l[i].size : Int)), by dsimp only; omega, by dsimp only; omega, ⟨⟨_, rfl, .refl _⟩, ⟨_, rfl, .refl _⟩, ⟨_, rfl, .refl _⟩, ⟨_, rfl, .refl _⟩, trivial⟩, .nil⟩
    · refine go hT 10000 rfl ?_
      conv => whnf
      exact ret_of (.tmp rfl .nil) ⟨_, rfl, hi⟩
  · refine go hT 10000 rfl ?_
    conv => whnf
    exact ret_of (.tmp rfl .nil) ⟨_, rfl, hi⟩
end
end Go.Vw
namespace Go.Vw
open Go.RowKit Go.Am Go.Proofs
attribute [local irreducible] VOps VRun VNext VD VDn VDq Ret
section
variable [Drw] (hT : TabOk tab Tryz.prog)
include hT
set_option maxHeartbeats 2000000 in
theorem weighModule (m : MModule) (hs : Small m) (hn : SmallN m) : PureR Tryz.prog 32 [.agg (modV m), .int .i64 2000] (isN 100000000000) := by
  refine VC.code hT 136 rfl rfl rfl rfl fun F W S0 => ?_
  have z1 := hs.globals
  have z2 := hs.structs
  have z3 := hs.chans
  have z4 := hs.locks
  have z5 := hs.inputs
  have z6 := hs.sinks
  have z7 := hs.hatches
  have z8 := hs.funcs
  have z9 := hs.threads
  repeat' (first
    | (refine go hT 10000 rfl ?_; conv => whnf)
    | refine ops_s rfl (s_boxF rfl rfl rfl ?_)
    | refine ops_s rfl (s_listF hT rfl rfl rfl rfl rfl rfl rfl rfl ?_)
    | refine ops_g rfl (g_len hT rfl rfl rfl rfl rfl rfl (List.length_map _)) ?_
    | refine op_guard rfl rfl rfl rfl (fun h => ?_) (fun h => ?_)
    | refine ops_g rfl (g_add rfl rfl rfl (by omega)) ?_)
  refine run_lq (fun x : Nat × Int => ([(1, .int .i64 2000), (2, .pin (modV m) 0), (5, .int .i64 x.2), (6, .int .i64 x.1)], [])) (fun x => 0 ≤ x.2 ∧ x.2 ≤ 100000000000) (fun x => m.funcs.length - x.1) (0, _) (by dsimp only; omega) ⟨⟨⟨_, rfl, .refl _⟩, ⟨_, rfl, .refl _⟩, ⟨_, rfl, .refl _⟩, ⟨_, rfl, .refl _⟩, trivial⟩, .nil⟩ fun ⟨i, n⟩ hi => ?_
  have fin : ∀ (K : List Kt), True := fun _ => trivial
  refine go hT 10000 rfl ?_
  conv => whnf
  refine ops_g rfl (g_len hT rfl rfl rfl rfl rfl rfl (List.length_map _)) ?_
  refine go hT 10000 rfl ?_
  conv => whnf
  refine op_guard rfl rfl rfl rfl (fun hlt => ?_) (fun hlt => ?_)
  · simp only [decide_eq_true_eq, Int.ofNat_lt] at hlt
    refine go hT 10000 rfl ?_
    conv => whnf
    refine run_split rfl (fun h2 => ?_) (fun h2 => ?_)
    · have h2 := of_decide_eq_true h2
      have hin := List.getElem_mem hlt
      have h3 := hn.funcs _ hin
      have h4 := hs.code _ hin
      refine go hT 10000 rfl ?_
      conv => whnf
      refine run_drw hT rfl rfl ?_
      repeat' (first
        | (refine god hT 2 rfl ?_; conv => whnf)
        | refine vd_fin rfl ?_
        | refine q_g rfl (fun S' => (g_len hT rfl rfl rfl rfl rfl rfl (List.length_map _)).qs) ?_
        | refine q_guard rfl rfl rfl rfl (fun h => ?_) (fun h => ?_)
        | refine q_g rfl (fun S' => (g_indexM hT rfl rfl rfl rfl rfl hlt rfl).qs) ?_
        | refine q_g rfl (fun S' => (g_lenStr (s := m.funcs[i].name) hT rfl rfl rfl rfl rfl rfl).qs) ?_
        | refine q_g rfl (fun S' => (g_add rfl rfl rfl (by omega)).qs) ?_)
      refine go hT 10000 rfl ?_
      conv => whnf
      refine run_lq (fun x : Nat × Int => ([(1, .int .i64 2000), (2, .pin (modV m) 0), (5, .int .i64 x.2), (6, .int .i64 i), (7, .int .i64 x.1)], [])) (fun x => 0 ≤ x.2 ∧ x.2 ≤ 100000000000) (fun x => m.funcs[i].code.length - x.1) (0, _) (by dsimp only; omega) ⟨⟨⟨_, rfl, .refl _⟩, ⟨_, rfl, .refl _⟩, ⟨_, rfl, .refl _⟩, ⟨_, rfl, .refl _⟩, ⟨_, rfl, .refl _⟩, trivial⟩, .nil⟩ fun ⟨k, n⟩ hk => ?_
      refine go hT 10000 rfl ?_
      conv => whnf
      refine ops_g rfl (g_indexM hT rfl rfl rfl rfl rfl hlt rfl) ?_
      refine go hT 10000 rfl ?_
      conv => whnf
      refine ops_g rfl (g_len hT rfl rfl rfl rfl rfl rfl (List.length_map _)) ?_
      refine go hT 10000 rfl ?_
      conv => whnf
      refine op_guard rfl rfl rfl rfl (fun hlk => ?_) (fun hlk => ?_)
      · simp only [decide_eq_true_eq, Int.ofNat_lt] at hlk
        refine go hT 10000 rfl ?_
        conv => whnf
        refine run_split rfl (fun h6 => ?_) (fun h6 => ?_)
        · have h6 := of_decide_eq_true h6
          have h5 := hs.args _ hin _ (List.getElem_mem hlk)
          repeat' (first
            | (refine go hT 10000 rfl ?_; conv => whnf)
            | refine ops_s rfl (s_boxF rfl rfl rfl ?_)
            | refine ops_s rfl (s_listF hT rfl rfl rfl rfl rfl rfl rfl rfl ?_)
            | refine ops_g rfl (g_len hT rfl rfl rfl rfl rfl rfl (List.length_map _)) ?_
            | refine op_guard rfl rfl rfl rfl (fun h => ?_) (fun h => ?_)
            | refine ops_g rfl (g_indexM hT rfl rfl rfl rfl rfl hlt rfl) ?_
            | refine ops_g rfl (g_indexM hT rfl rfl rfl rfl rfl hlk rfl) ?_
            | refine ops_g rfl (g_add rfl rfl rfl (by omega)) ?_)
          exact ⟨(k + 1, n + (m.funcs[i].code[k].args.length : Int)), by dsimp only; omega, by dsimp only; omega, ⟨⟨_, rfl, .refl _⟩, ⟨_, rfl, .refl _⟩, ⟨_, rfl, .refl _⟩, ⟨_, rfl, .refl _⟩, ⟨_, rfl, .refl _⟩, trivial⟩, .nil⟩
        · repeat' (first
            | (refine go hT 10000 rfl ?_; conv => whnf)
            | refine ops_s rfl (s_boxF rfl rfl rfl ?_)
            | refine ops_s rfl (s_listF hT rfl rfl rfl rfl rfl rfl rfl rfl ?_)
            | refine ops_g rfl (g_len hT rfl rfl rfl rfl rfl rfl (List.length_map _)) ?_
            | refine op_guard rfl rfl rfl rfl (fun h => ?_) (fun h => ?_)
            | refine ops_g rfl (g_add rfl rfl rfl (by omega)) ?_)
          exact ⟨(i + 1, n), hk, by dsimp only; omega, ⟨⟨_, rfl, .refl _⟩, ⟨_, rfl, .refl _⟩, ⟨_, rfl, .refl _⟩, ⟨_, rfl, .refl _⟩, trivial⟩, .nil⟩
      · repeat' (first
          | (refine go hT 10000 rfl ?_; conv => whnf)
          | refine ops_s rfl (s_boxF rfl rfl rfl ?_)
          | refine ops_s rfl (s_listF hT rfl rfl rfl rfl rfl rfl rfl rfl ?_)
          | refine ops_g rfl (g_len hT rfl rfl rfl rfl rfl rfl (List.length_map _)) ?_
          | refine op_guard rfl rfl rfl rfl (fun h => ?_) (fun h => ?_)
          | refine ops_g rfl (g_add rfl rfl rfl (by omega)) ?_)
        exact ⟨(i + 1, n), hk, by dsimp only; omega, ⟨⟨_, rfl, .refl _⟩, ⟨_, rfl, .refl _⟩, ⟨_, rfl, .refl _⟩, ⟨_, rfl, .refl _⟩, trivial⟩, .nil⟩
    · refine go hT 10000 rfl ?_
      conv => whnf
      refine ops_s rfl (s_pureR hT rfl rfl rfl rfl rfl rfl (weighSized hT m.globals _ hi hs.globals hn.globals) ?_)
      rintro _ ⟨n0, rfl, hn0⟩
      refine go hT 10000 rfl ?_
      conv => whnf
      refine ops_s rfl (s_pureR hT rfl rfl rfl rfl rfl rfl (weighSized hT m.structs _ hn0 hs.structs hn.structs) ?_)
      rintro _ ⟨n1, rfl, hn1⟩
      refine go hT 10000 rfl ?_
      conv => whnf
      refine ops_s rfl (s_pureR hT rfl rfl rfl rfl rfl rfl (weighSized hT m.chans _ hn1 hs.chans hn.chans) ?_)
      rintro _ ⟨n2, rfl, hn2⟩
      refine go hT 10000 rfl ?_
      conv => whnf
      refine ops_s rfl (s_pureR hT rfl rfl rfl rfl rfl rfl (weighTexts hT m.locks _ hn2 hs.locks hn.locks) ?_)
      rintro _ ⟨n3, rfl, hn3⟩
      refine go hT 10000 rfl ?_
      conv => whnf
      refine ops_s rfl (s_pureR hT rfl rfl rfl rfl rfl rfl (weighTexts hT m.inputs _ hn3 hs.inputs hn.inputs) ?_)
      rintro _ ⟨n4, rfl, hn4⟩
      refine go hT 10000 rfl ?_
      conv => whnf
      refine ops_s rfl (s_pureR hT rfl rfl rfl rfl rfl rfl (weighTexts hT m.sinks _ hn4 hs.sinks hn.sinks) ?_)
      rintro _ ⟨n5, rfl, hn5⟩
      refine go hT 10000 rfl ?_
      conv => whnf
      refine ops_s rfl (s_pureR hT rfl rfl rfl rfl rfl rfl (weighTexts hT m.hatches _ hn5 hs.hatches hn.hatches) ?_)
      rintro _ ⟨n6, rfl, hn6⟩
      refine go hT 10000 rfl ?_
      conv => whnf
      exact ret_of (.tmp rfl .nil) ⟨_, rfl, hn6⟩
  · refine go hT 10000 rfl ?_
    conv => whnf
    refine ops_s rfl (s_pureR hT rfl rfl rfl rfl rfl rfl (weighSized hT m.globals _ hi hs.globals hn.globals) ?_)
    rintro _ ⟨n0, rfl, hn0⟩
    refine go hT 10000 rfl ?_
    conv => whnf
    refine ops_s rfl (s_pureR hT rfl rfl rfl rfl rfl rfl (weighSized hT m.structs _ hn0 hs.structs hn.structs) ?_)
    rintro _ ⟨n1, rfl, hn1⟩
    refine go hT 10000 rfl ?_
    conv => whnf
    refine ops_s rfl (s_pureR hT rfl rfl rfl rfl rfl rfl (weighSized hT m.chans _ hn1 hs.chans hn.chans) ?_)
    rintro _ ⟨n2, rfl, hn2⟩
    refine go hT 10000 rfl ?_
    conv => whnf
    refine ops_s rfl (s_pureR hT rfl rfl rfl rfl rfl rfl (weighTexts hT m.locks _ hn2 hs.locks hn.locks) ?_)
    rintro _ ⟨n3, rfl, hn3⟩
    refine go hT 10000 rfl ?_
    conv => whnf
    refine ops_s rfl (s_pureR hT rfl rfl rfl rfl rfl rfl (weighTexts hT m.inputs _ hn3 hs.inputs hn.inputs) ?_)
    rintro _ ⟨n4, rfl, hn4⟩
    refine go hT 10000 rfl ?_
    conv => whnf
    refine ops_s rfl (s_pureR hT rfl rfl rfl rfl rfl rfl (weighTexts hT m.sinks _ hn4 hs.sinks hn.sinks) ?_)
    rintro _ ⟨n5, rfl, hn5⟩
    refine go hT 10000 rfl ?_
    conv => whnf
    refine ops_s rfl (s_pureR hT rfl rfl rfl rfl rfl rfl (weighTexts hT m.hatches _ hn5 hs.hatches hn.hatches) ?_)
    rintro _ ⟨n6, rfl, hn6⟩
    refine go hT 10000 rfl ?_
    conv => whnf
    exact ret_of (.tmp rfl .nil) ⟨_, rfl, hn6⟩
theorem great (m : MModule) (hs : Small m) (hn : SmallN m) : PureR Tryz.prog 11 [.agg (modV m)] isB := by
  refine VC.code hT 25 rfl rfl rfl rfl fun F W S0 => ?_
  have z8 := hs.funcs
  refine go hT 10000 rfl ?_
  conv => whnf
  refine ops_s rfl (s_boxF rfl rfl rfl ?_)
  refine go hT 10000 rfl ?_
  conv => whnf
  refine ops_s rfl (s_pureR hT rfl rfl rfl rfl rfl rfl (weighModule hT m hs hn) ?_)
  rintro _ ⟨n, rfl, hn⟩
  refine go hT 10000 rfl ?_
  conv => whnf
  refine run_split rfl (fun h => ?_) (fun h => ?_)
  · refine go hT 10000 rfl ?_
    conv => whnf
    exact ret_bool rfl rfl rfl ⟨_, rfl⟩
  refine go hT 10000 rfl ?_
  conv => whnf
  refine run_lq (fun i : Nat => ([(1, .pin (modV m) 0), (3, .int .i64 i)], [])) (fun _ => True) (fun i => m.funcs.length - i) 0 trivial ⟨⟨⟨_, rfl, .refl _⟩, ⟨_, rfl, .refl _⟩, trivial⟩, .nil⟩ fun i _ => ?_
  refine go hT 10000 rfl ?_
  conv => whnf
  refine ops_g rfl (g_len hT rfl rfl rfl rfl rfl rfl (List.length_map _)) ?_
  refine go hT 10000 rfl ?_
  conv => whnf
  refine op_guard rfl rfl rfl rfl (fun hlt => ?_) (fun hlt => ?_)
  · simp only [decide_eq_true_eq, Int.ofNat_lt] at hlt
    repeat' (first
      | (refine go hT 10000 rfl ?_; conv => whnf)
      | refine ops_s rfl (s_boxF rfl rfl rfl ?_)
      | refine ops_s rfl (s_listF hT rfl rfl rfl rfl rfl rfl rfl rfl ?_)
      | refine ops_g rfl (g_len hT rfl rfl rfl rfl rfl rfl (List.length_map _)) ?_
      | refine op_guard rfl rfl rfl rfl (fun h => ?_) (fun h => ?_)
      | refine run_split rfl (fun h => ?_) (fun h => ?_)
      | refine ops_g rfl (g_indexM hT rfl rfl rfl rfl rfl hlt rfl) ?_
      | refine ops_g rfl (g_add rfl rfl rfl (by omega)) ?_
      | exact ret_bool rfl rfl rfl ⟨_, rfl⟩
      | exact ⟨i + 1, trivial, by omega, ⟨⟨_, rfl, .refl _⟩, ⟨_, rfl, .refl _⟩, trivial⟩, .nil⟩)
  · refine go hT 10000 rfl ?_
    conv => whnf
    exact ret_bool rfl rfl rfl ⟨_, rfl⟩
end
end Go.Vw
namespace Go.Vw
open Go.RowKit Go.Am Go.Proofs
attribute [local irreducible] VOps VRun VNext VD VDn VDq Ret
theorem rows_len {α : Type} {g : α → List V} {n : Nat} (h : ∀ x, (g x).length = n) (l : List α) : ∀ r ∈ l.map g, r.length = n := fun r hr => by
  obtain ⟨x, _, rfl⟩ := List.mem_map.1 hr
  exact h x
theorem rows_cell {α : Type} {g : α → List V} (h : ∀ x, allCellV (g x) = true) (l : List α) : ∀ r ∈ l.map g, allCellV r = true := fun r hr => by
  obtain ⟨x, _, rfl⟩ := List.mem_map.1 hr
  exact h x
theorem intV_len (l : List Int) : ∀ r ∈ l.map intV, r.length = 1 := rows_len (g := intV) (n := 1) (fun _ => rfl) l
theorem intV_cell (l : List Int) : ∀ r ∈ l.map intV, allCellV r = true := rows_cell (g := intV) (fun _ => rfl) l
theorem strV_len (l : List ByteArray) : ∀ r ∈ l.map strV, r.length = 1 := rows_len (g := strV) (n := 1) (fun _ => rfl) l
theorem strV_cell (l : List ByteArray) : ∀ r ∈ l.map strV, allCellV r = true := rows_cell (g := strV) (fun _ => rfl) l
theorem sizedV_len (l : List MSized) : ∀ r ∈ l.map sizedV, r.length = 2 := rows_len (g := sizedV) (n := 2) (fun _ => rfl) l
theorem sizedV_cell (l : List MSized) : ∀ r ∈ l.map sizedV, allCellV r = true := rows_cell (g := sizedV) (fun _ => rfl) l
theorem opV_len (l : List MOp) : ∀ r ∈ l.map opV, r.length = 12 := rows_len (g := opV) (n := 12) (fun _ => rfl) l
theorem opV_cell (l : List MOp) : ∀ r ∈ l.map opV, allCellV r = true := rows_cell (g := opV) (fun _ => rfl) l
theorem funcV_len (l : List MFunc) : ∀ r ∈ l.map funcV, r.length = 5 := rows_len (g := funcV) (n := 5) (fun _ => rfl) l
theorem funcV_cell (l : List MFunc) : ∀ r ∈ l.map funcV, allCellV r = true := rows_cell (g := funcV) (fun _ => rfl) l
section
variable [Drw] (hT : TabOk tab Tryz.prog)
include hT
theorem copyInts {tok : Tok} (xs : List Int) (hl : xs.length < 2000000) : Pure Tryz.prog 35 [.slice tok (xs.map intV)] (.slice .no (xs.map intV)) := by
  refine VC.code hT 9 rfl rfl rfl rfl fun F W S0 => ?_
  refine go hT 10000 rfl ?_
  conv => whnf
  refine ops_s rfl (s_buildSlice hT rfl rfl rfl rfl rfl rfl rfl rfl fun t ht => ?_)
  refine go hT 10000 rfl ?_
  conv => whnf
  refine ops_s rfl (s_append hT rfl rfl rfl rfl rfl rfl rfl rfl rfl rfl ht .here (fun r hr => by cases hr) (intV_len xs) (intV_cell xs) (by simp only [List.length_nil, List.length_map]; omega) fun t' ht' => ?_)
  refine go hT 10000 rfl ?_
  conv => whnf
  exact ret_of (.tmpL rfl (V.Le.slice _ _) .nil) rfl
theorem copyTexts {tok : Tok} (xs : List ByteArray) (hl : xs.length < 2000000) : Pure Tryz.prog 34 [.slice tok (xs.map strV)] (.slice .no (xs.map strV)) := by
  refine VC.code hT 9 rfl rfl rfl rfl fun F W S0 => ?_
  refine go hT 10000 rfl ?_
  conv => whnf
  refine ops_s rfl (s_buildSlice hT rfl rfl rfl rfl rfl rfl rfl rfl fun t ht => ?_)
  refine go hT 10000 rfl ?_
  conv => whnf
  refine ops_s rfl (s_append hT rfl rfl rfl rfl rfl rfl rfl rfl rfl rfl ht .here (fun r hr => by cases hr) (strV_len xs) (strV_cell xs) (by simp only [List.length_nil, List.length_map]; omega) fun t' ht' => ?_)
  refine go hT 10000 rfl ?_
  conv => whnf
  exact ret_of (.tmpL rfl (V.Le.slice _ _) .nil) rfl
theorem copySized {tok : Tok} (xs : List MSized) (hl : xs.length < 2000000) : Pure Tryz.prog 33 [.slice tok (xs.map sizedV)] (.slice .no (xs.map sizedV)) := by
  refine VC.code hT 9 rfl rfl rfl rfl fun F W S0 => ?_
  refine go hT 10000 rfl ?_
  conv => whnf
  refine ops_s rfl (s_buildSlice hT rfl rfl rfl rfl rfl rfl rfl rfl fun t ht => ?_)
  refine go hT 10000 rfl ?_
  conv => whnf
  refine ops_s rfl (s_append hT rfl rfl rfl rfl rfl rfl rfl rfl rfl rfl ht .here (fun r hr => by cases hr) (sizedV_len xs) (sizedV_cell xs) (by simp only [List.length_nil, List.length_map]; omega) fun t' ht' => ?_)
  refine go hT 10000 rfl ?_
  conv => whnf
  exact ret_of (.tmpL rfl (V.Le.slice _ _) .nil) rfl
theorem copyCode {tok : Tok} (xs : List MOp) (hl : xs.length < 2000000) (ha : ∀ o ∈ xs, o.args.length < 2000000) : Pure Tryz.prog 36 [.slice tok (xs.map opV)] (.slice .no (xs.map opV)) := by
  refine VC.code hT 26 rfl rfl rfl rfl fun F W S0 => ?_
  refine go hT 10000 rfl ?_
  conv => whnf
  refine ops_s rfl (s_buildSlice hT rfl rfl rfl rfl rfl rfl rfl rfl fun t ht => ?_)
  refine go hT 10000 rfl ?_
  conv => whnf
  refine run_lq (fun x : Nat × Tok => ([(0, .slice tok (xs.map opV)), (3, .slice x.2 ((xs.take x.1).map opV)), (4, .int .i64 x.1)], [.tl x.2])) (fun x => tokB 12 x.2 = true) (fun x => xs.length - x.1) (0, t) ht ⟨⟨⟨_, rfl, .refl _⟩, ⟨_, rfl, .refl _⟩, ⟨_, rfl, .refl _⟩, trivial⟩, .refl _⟩ fun ⟨i, t⟩ ht => ?_
  refine go hT 10000 rfl ?_
  conv => whnf
  refine ops_g rfl (g_len hT rfl rfl rfl rfl rfl rfl (List.length_map _)) ?_
  refine go hT 10000 rfl ?_
  conv => whnf
  refine run_split rfl (fun hlt => ?_) (fun hlt => ?_)
  · simp only [decide_eq_true_eq, Int.ofNat_lt] at hlt
    have h2 := ha _ (List.getElem_mem hlt)
    refine go hT 10000 rfl ?_
    conv => whnf
    refine ops_g rfl (g_indexM hT rfl rfl rfl rfl rfl hlt rfl) ?_
    refine go hT 10000 rfl ?_
    conv => whnf
    refine ops_s rfl (s_alloc hT rfl rfl rfl fun b => ?_)
    refine go hT 10000 rfl ?_
    conv => whnf
    refine ops_s rfl (s_store (cs' := opV xs[i]) hT rfl rfl rfl .here rfl ?_)
    refine go hT 10000 rfl ?_
    conv => whnf
    refine ops_g rfl (g_load hT rfl rfl .here rfl) ?_
    refine go hT 10000 rfl ?_
    conv => whnf
    refine ops_s rfl (s_pure hT rfl rfl rfl rfl rfl rfl (copyInts hT xs[i].args h2) ?_)
    refine go hT 10000 rfl ?_
    conv => whnf
    refine ops_s rfl (s_store (cs' := opV xs[i]) hT rfl rfl rfl .here rfl ?_)
    refine go hT 10000 rfl ?_
    conv => whnf
    refine ops_g rfl (g_load hT rfl rfl .here rfl) ?_
    refine go hT 10000 rfl ?_
    conv => whnf
    refine ops_s rfl (s_listF (rows := [opV xs[i]]) hT rfl rfl rfl rfl rfl rfl rfl rfl ?_)
    refine go hT 10000 rfl ?_
    conv => whnf
    refine ops_s rfl (s_append hT rfl rfl rfl rfl rfl rfl rfl rfl rfl rfl ht (.there .here) (opV_len _) (opV_len [xs[i]]) (opV_cell [xs[i]]) (by simp only [List.length_cons, List.length_nil, List.length_map, List.length_take]; omega) fun t' ht' => ?_)
    refine go hT 10000 rfl ?_
    conv => whnf
    refine ops_g rfl (g_add rfl rfl rfl (by dsimp only; omega)) ?_
    refine go hT 10000 rfl ?_
    conv => whnf
    exact ⟨(i + 1, t'), ht', by dsimp only; omega, ⟨⟨_, rfl, .refl _⟩, ⟨_, rfl, by dsimp only; rw [List.take_succ_eq_append_getElem hlt, List.map_append]; exact .refl _⟩, ⟨_, rfl, .refl _⟩, trivial⟩, .drop (.refl _)⟩
  · simp only [decide_eq_false_iff_not, Int.ofNat_lt] at hlt
    refine go hT 10000 rfl ?_
    conv => whnf
    refine ret_of (.tmpL rfl (V.Le.slice _ _) .nil) ?_
    show V.slice .no ((xs.take i).map opV) = _
    rw [List.take_of_length_le (by omega)]
end
end Go.Vw
namespace Go.Vw
open Go.RowKit Go.Am Go.Proofs
attribute [local irreducible] VOps VRun VNext VD VDn VDq Ret
def modV' (m : MModule) (fs : V) : List V := [.slice .no (m.globals.map sizedV), .slice .no (m.structs.map sizedV), .slice .no (m.chans.map sizedV), .slice .no (m.locks.map strV), .slice .no (m.inputs.map strV), .slice .no (m.sinks.map strV), .slice .no (m.hatches.map strV), fs, .slice .no (m.threads.map intV)]
def modZ : List V := [.slice .zero [], .slice .zero [], .slice .zero [], .slice .zero [], .slice .zero [], .slice .zero [], .slice .zero [], .slice .zero [], .slice .zero []]
section
variable [Drw] (hT : TabOk tab Tryz.prog)
include hT
theorem copyModule (m : MModule) (hs : Small m) : Pure Tryz.prog 12 [.agg (modV m)] (.agg (modV m)) := by
  refine VC.code hT 54 rfl rfl rfl rfl fun F W S0 => ?_
  have z8 := hs.funcs
  refine go hT 10000 rfl ?_
  conv => whnf
  refine ops_s rfl (s_boxF rfl rfl rfl ?_)
  refine go hT 10000 rfl ?_
  conv => whnf
  refine ops_s rfl (s_alloc hT rfl rfl rfl fun b2 => ?_)
  refine go hT 10000 rfl ?_
  conv => whnf
  refine run_drw hT rfl rfl ?_
  repeat' (first
    | (refine god hT 2 rfl ?_; conv => whnf)
    | refine vd_fin rfl ?_
    | refine q_g rfl (fun S' => (g_len hT rfl rfl rfl rfl rfl rfl (List.length_map _)).qs) ?_
    | refine q_guard rfl rfl rfl rfl (fun h => ?_) (fun h => ?_)
    | refine q_g rfl (fun S' => s_pure hT rfl rfl rfl rfl rfl rfl (copySized hT m.globals hs.globals) ⟨rfl, rfl⟩) ?_
    | refine q_g rfl (fun S' => s_pure hT rfl rfl rfl rfl rfl rfl (copySized hT m.structs hs.structs) ⟨rfl, rfl⟩) ?_
    | refine q_g rfl (fun S' => s_pure hT rfl rfl rfl rfl rfl rfl (copySized hT m.chans hs.chans) ⟨rfl, rfl⟩) ?_
    | refine q_g rfl (fun S' => s_pure hT rfl rfl rfl rfl rfl rfl (copyTexts hT m.locks hs.locks) ⟨rfl, rfl⟩) ?_
    | refine q_g rfl (fun S' => s_pure hT rfl rfl rfl rfl rfl rfl (copyTexts hT m.inputs hs.inputs) ⟨rfl, rfl⟩) ?_
    | refine q_g rfl (fun S' => s_pure hT rfl rfl rfl rfl rfl rfl (copyTexts hT m.sinks hs.sinks) ⟨rfl, rfl⟩) ?_
    | refine q_g rfl (fun S' => s_pure hT rfl rfl rfl rfl rfl rfl (copyTexts hT m.hatches hs.hatches) ⟨rfl, rfl⟩) ?_
    | refine q_g rfl (fun S' => s_pure hT rfl rfl rfl rfl rfl rfl (copyInts hT m.threads hs.threads) ⟨rfl, rfl⟩) ?_)
  refine vd_eff1 rfl (eff rfl rfl (s_alloc hT rfl rfl rfl fun b3 => ⟨trivial, ?_⟩))
  refine god hT 2 rfl ?_
  conv => whnf
  refine vd_eff1 rfl (eff rfl rfl (s_store (cs' := modV' m (.slice .zero [])) hT rfl rfl rfl .here rfl ⟨trivial, ?_⟩))
  refine god hT 2 rfl ?_
  conv => whnf
  refine vd_fin rfl ?_
  refine go hT 10000 rfl ?_
  conv => whnf
  refine run_lq (fun x : Nat × Tok => ([(1, .pin (modV m) 0), (2, .ptr b2 0), (3, .ptr b3 0), (4, .int .i64 x.1)], [.cells b3 (modV' m (.slice x.2 ((m.funcs.take x.1).map funcV))) 27, .cells b2 modZ 27, .tl x.2])) (fun x => tokB 5 x.2 = true) (fun x => m.funcs.length - x.1) (0, .zero) rfl ⟨⟨⟨_, rfl, .refl _⟩, ⟨_, rfl, .refl _⟩, ⟨_, rfl, .refl _⟩, ⟨_, rfl, .refl _⟩, trivial⟩, .keep (.keep (.zero .nil))⟩ fun ⟨i, t⟩ ht => ?_
  refine go hT 10000 rfl ?_
  conv => whnf
  refine ops_g rfl (g_len hT rfl rfl rfl rfl rfl rfl (List.length_map _)) ?_
  refine go hT 10000 rfl ?_
  conv => whnf
  refine run_split rfl (fun hlt => ?_) (fun hlt => ?_)
  · simp only [decide_eq_true_eq, Int.ofNat_lt] at hlt
    have hin := List.getElem_mem hlt
    refine go hT 10000 rfl ?_
    conv => whnf
    refine ops_g rfl (g_indexM hT rfl rfl rfl rfl rfl hlt rfl) ?_
    refine go hT 10000 rfl ?_
    conv => whnf
    refine ops_s rfl (s_alloc hT rfl rfl rfl fun b => ?_)
    refine go hT 10000 rfl ?_
    conv => whnf
    refine ops_s rfl (s_store (cs' := funcV m.funcs[i]) hT rfl rfl rfl .here rfl ?_)
    refine go hT 10000 rfl ?_
    conv => whnf
    refine ops_g rfl (g_load hT rfl rfl .here rfl) ?_
    refine go hT 10000 rfl ?_
    conv => whnf
    refine ops_s rfl (s_pure hT rfl rfl rfl rfl rfl rfl (copyCode hT m.funcs[i].code (hs.code _ hin) (hs.args _ hin)) ?_)
    refine go hT 10000 rfl ?_
    conv => whnf
    refine ops_s rfl (s_store (cs' := funcV m.funcs[i]) hT rfl rfl rfl .here rfl ?_)
    refine go hT 10000 rfl ?_
    conv => whnf
    refine ops_g rfl (g_load hT rfl rfl (.there .here) rfl) ?_
    refine go hT 10000 rfl ?_
    conv => whnf
    refine ops_g rfl (g_load hT rfl rfl .here rfl) ?_
    refine go hT 10000 rfl ?_
    conv => whnf
    refine ops_s rfl (s_listF (rows := [funcV m.funcs[i]]) hT rfl rfl rfl rfl rfl rfl rfl rfl ?_)
    refine go hT 10000 rfl ?_
    conv => whnf
    refine ops_s rfl (s_append hT rfl rfl rfl rfl rfl rfl rfl rfl rfl rfl ht (.there (.there (.there .here))) (funcV_len _) (funcV_len [m.funcs[i]]) (funcV_cell [m.funcs[i]]) (by simp only [List.length_cons, List.length_nil, List.length_map, List.length_take]; omega) fun t' ht' => ?_)
    refine go hT 10000 rfl ?_
    conv => whnf
    refine ops_s rfl (s_store (cs' := modV' m (.slice t' ((m.funcs.take i).map funcV ++ [funcV m.funcs[i]]))) hT rfl rfl rfl (.there .here) rfl ?_)
    refine go hT 10000 rfl ?_
    conv => whnf
    refine ops_g rfl (g_add rfl rfl rfl (by dsimp only; omega)) ?_
    refine go hT 10000 rfl ?_
    conv => whnf
    exact ⟨(i + 1, t'), ht', by dsimp only; omega, ⟨⟨_, rfl, .refl _⟩, ⟨_, rfl, .refl _⟩, ⟨_, rfl, .refl _⟩, ⟨_, rfl, .refl _⟩, trivial⟩, by dsimp only; rw [List.take_succ_eq_append_getElem hlt, List.map_append]; exact .drop (.refl _)⟩
  · simp only [decide_eq_false_iff_not, Int.ofNat_lt] at hlt
    have e : m.funcs.take i = m.funcs := List.take_of_length_le (by omega)
    refine run_wkT (fr' := [(2, .ptr b2 0), (3, .ptr b3 0)]) (S' := [.cells b3 (modV m) 27, .cells b2 modZ 27]) ⟨⟨⟨_, rfl, .refl _⟩, ⟨_, rfl, .refl _⟩, trivial⟩, by rw [e]; exact .cells (.cons (.refl _) (.cons (.refl _) (.cons (.refl _) (.cons (.refl _) (.cons (.refl _) (.cons (.refl _) (.cons (.refl _) (.cons (V.Le.slice _ _) (.cons (.refl _) .nil))))))))) (.keep .nil)⟩ ?_
    refine go hT 10000 rfl ?_
    conv => whnf
    refine ops_g rfl (g_load hT rfl rfl .here rfl) ?_
    refine go hT 10000 rfl ?_
    conv => whnf
    refine ops_s rfl (s_store (cs' := modV m) hT rfl rfl rfl (.there .here) rfl ?_)
    refine go hT 10000 rfl ?_
    conv => whnf
    exact ret_of (.cell rfl (.there .here) rfl .nil) rfl
end
end Go.Vw
namespace Go.Vw
open Go.RowKit Go.Am Go.Proofs
attribute [local irreducible] VOps VRun VNext VD VDn VDq Ret
abbrev P2 := Int × Int
def pairV (p : P2) : List V := [.int .i64 p.1, .int .i64 p.2]
theorem pair_eq (p q : P2) : decide (p = q) = (decide (p.1 = q.1) && decide (p.2 = q.2)) := by
  obtain ⟨a, b⟩ := p
  obtain ⟨c, d⟩ := q
  simp only [Prod.mk.injEq, Bool.decide_and]
theorem key67 (p q : P2) : keyB tab 256 (.agg (pairV p)) (.agg (pairV q)) = some (decide (p = q)) := by
  rw [pair_eq]
  have : keyB tab 256 (.agg (pairV p)) (.agg (pairV q)) = some (decide (p.1 = q.1) && (decide (p.2 = q.2) && true)) := by rfl
  rw [this, Bool.and_true]
/-! ### a map from places -/
abbrev AtM := List (P2 × P2)
def atE (e : P2 × P2) : V × V := (.agg (pairV e.1), .agg (pairV e.2))
def findM : AtM → P2 → Option P2
  | [], _ => none
  | e :: r, p => if p = e.1 then some e.2 else findM r p
def putM : AtM → P2 → P2 → AtM
  | [], p, l => [(p, l)]
  | e :: r, p, l => if p = e.1 then (p, l) :: r else e :: putM r p l
theorem look67 (p : P2) : ∀ A : AtM, LookV tab 256 (.agg (pairV p)) (A.map atE) ((findM A p).map fun l => .agg (pairV l))
  | [] => .nil
  | e :: r => by
    unfold findM
    by_cases h : p = e.1
    · rw [if_pos h]
      exact .hit (by rw [key67, decide_eq_true h])
    · rw [if_neg h]
      exact .miss (by rw [key67, decide_eq_false h]) (look67 p r)
theorem put67 (p l : P2) : ∀ A : AtM, PutV tab 256 (.agg (pairV p)) (.agg (pairV l)) (A.map atE) ((putM A p l).map atE)
  | [] => .nil
  | e :: r => by
    unfold putM
    by_cases h : p = e.1
    · rw [if_pos h]
      have : atE e = (.agg (pairV p), .agg (pairV e.2)) := by rw [h]; rfl
      rw [List.map_cons, this]
      exact .hit (by rw [key67, decide_eq_true rfl])
    · rw [if_neg h]
      exact .miss (by rw [key67, decide_eq_false h]) (put67 p l r)
theorem find_put (A : AtM) (p l q : P2) : findM (putM A p l) q = if q = p then some l else findM A q := by
  induction A with
  | nil => simp only [putM, findM]
  | cons e r ih =>
    unfold putM
    by_cases h : p = e.1
    · rw [if_pos h]
      simp only [findM]
      by_cases hq : q = p
      · simp [hq]
      · rw [if_neg hq, if_neg hq, if_neg (by rw [← h]; exact hq)]
    · rw [if_neg h]
      simp only [findM, ih]
      by_cases hq : q = e.1
      · rw [if_pos hq, if_pos hq, if_neg (by rw [hq]; exact fun e' => h e'.symm)]
      · rw [if_neg hq, if_neg hq]
def andI (x y : Int) : Int := IntKind.i64.wrap (BitVec.ofInt IntKind.i64.bits x &&& BitVec.ofInt IntKind.i64.bits y).toNat
def orI (x y : Int) : Int := IntKind.i64.wrap (BitVec.ofInt IntKind.i64.bits x ||| BitVec.ofInt IntKind.i64.bits y).toNat
def andNotI (x y : Int) : Int := IntKind.i64.wrap (BitVec.ofInt IntKind.i64.bits x &&& ~~~(BitVec.ofInt IntKind.i64.bits y)).toNat
/-! ### what a finder holds -/
structure Fd where
  at_ : AtM
  callers : List (Int × Tok × List P2)
  row : List P2
  rtok : Tok
def meet (A : AtM) (p l : P2) : P2 := match findM A p with
  | some o => (andI l.1 o.1, orI l.2 o.2)
  | none => l
def comeF (x : Fd) (p l : P2) : Fd := if findM x.at_ p = some (meet x.at_ p l) then x else { x with at_ := putM x.at_ p (meet x.at_ p l), row := x.row ++ [p] }
def callE (c : Int × Tok × List P2) : V × V := (.int .i64 c.1, .slice c.2.1 (c.2.2.map pairV))
def fdS (m : MModule) (bx ba bc : Nat) (x : Fd) : Hp := .cells bx (modV m ++ [.map ba, .map bc, .slice x.rtok (x.row.map pairV)]) 253 :: .map ba (x.at_.map atE) :: .map bc (x.callers.map callE) :: .tl x.rtok :: x.callers.map fun c => .tl c.2.1
structure FdOk (n : Nat) (x : Fd) : Prop where
  row : x.row.length < n
  tok : tokB 2 x.rtok = true
  callers : ∀ c ∈ x.callers, c.2.2.length < n ∧ tokB 2 c.2.1 = true
/-- The same, without who owns what. -/
structure Fp where
  at_ : AtM
  callers : List (Int × List P2)
  row : List P2
def Fd.pure (x : Fd) : Fp := ⟨x.at_, x.callers.map fun c => (c.1, c.2.2), x.row⟩
def comeP (x : Fp) (p l : P2) : Fp := if findM x.at_ p = some (meet x.at_ p l) then x else { x with at_ := putM x.at_ p (meet x.at_ p l), row := x.row ++ [p] }
theorem come_pure (x : Fd) (p l : P2) (t : Tok) : Fd.pure { comeF x p l with rtok := t } = comeP x.pure p l := by
  unfold comeF comeP Fd.pure
  by_cases h : findM x.at_ p = some (meet x.at_ p l)
  · rw [if_pos h, if_pos h]
  · rw [if_neg h, if_neg h]
theorem come_ok {n : Nat} {x : Fd} (h : FdOk n x) (p l : P2) {t : Tok} (ht : tokB 2 t = true) : FdOk (n + 1) { comeF x p l with rtok := t } := by
  unfold comeF
  by_cases hc : findM x.at_ p = some (meet x.at_ p l)
  · rw [if_pos hc]; exact ⟨by have := h.row; show x.row.length < n + 1; omega, ht, fun c hm => by have := h.callers c hm; exact ⟨by omega, this.2⟩⟩
  · rw [if_neg hc]
    refine ⟨?_, ht, fun c hm => by have := h.callers c hm; exact ⟨by omega, this.2⟩⟩
    have := h.row
    show (x.row ++ [p]).length < n + 1
    rw [List.length_append, List.length_singleton]; omega
theorem pairV_len (l : List P2) : ∀ r ∈ l.map pairV, r.length = 2 := rows_len (g := pairV) (n := 2) (fun _ => rfl) l
theorem pairV_cell (l : List P2) : ∀ r ∈ l.map pairV, allCellV r = true := rows_cell (g := pairV) (fun _ => rfl) l
section
variable [Drw] (hT : TabOk tab Tryz.prog)
include hT
set_option maxHeartbeats 1000000 in
theorem come0 (m : MModule) (bx ba bc : Nat) (x : Fd) (hx : FdOk 60000000 x) (p l : P2) : VC Tryz.prog 144 [.ptr bx 0, .agg (pairV p), .agg (pairV l)] (fdS m bx ba bc x) fun _ S' => ∃ t, tokB 2 t = true ∧ S' = fdS m bx ba bc { comeF x p l with rtok := t } := by
  refine VC.code hT 52 rfl rfl rfl rfl fun F W S0 => ?_
  refine go hT 10000 rfl ?_
  conv => whnf
  refine ops_s rfl (s_boxF rfl rfl rfl ?_)
  refine go hT 10000 rfl ?_
  conv => whnf
  refine ops_s rfl (s_box rfl rfl rfl fun b5 => ?_)
  refine go hT 10000 rfl ?_
  conv => whnf
  refine run_drw hT rfl rfl ?_
  have hl := look67 p x.at_
  refine god hT 2 rfl ?_
  conv => whnf
  refine q_load hT rfl rfl rfl (.there .here) rfl ?_
  refine god hT 2 rfl ?_
  conv => whnf
  cases hf : findM x.at_ p with
  | none =>
    rw [hf] at hl
    refine q_c (fun S' => ∃ f', At S' (.map ba (x.at_.map atE)) f') rfl ⟨_, .there (.there .here)⟩ (fun S' ⟨_, hat⟩ => (g_lookup hT rfl rfl rfl rfl rfl rfl hat hl).qs) ?_
    refine god hT 2 rfl ?_
    conv => whnf
    refine vd_eff1 rfl (eff rfl rfl (s_alloc hT rfl rfl rfl fun b6 => And.intro (And.intro ⟨_, .there (.there (.there .here))⟩ (And.intro ⟨_, _, _, .there (.there .here), rfl⟩ trivial)) ?_))
    refine god hT 2 rfl ?_
    conv => whnf
    refine vd_eff1 rfl (eff rfl rfl (s_store (cs' := [.int .i64 0, .int .i64 0]) hT rfl rfl rfl .here rfl ⟨trivial, ?_⟩))
    refine god hT 2 rfl ?_
    conv => whnf
    refine vd_fin rfl ?_
    refine go hT 10000 rfl ?_
    conv => whnf
    refine run_drw hT rfl rfl ?_
    refine god hT 2 rfl ?_
    conv => whnf
    refine q_load hT rfl rfl rfl (.there (.there .here)) rfl ?_
    refine god hT 2 rfl ?_
    conv => whnf
    refine q_load hT rfl rfl rfl (.there .here) rfl ?_
    refine god hT 2 rfl ?_
    conv => whnf
    refine vd_eff1 rfl (eff rfl rfl (s_mapUpdate (es2 := (putM x.at_ p l).map atE) hT (.inl rfl) rfl rfl rfl rfl rfl (.there (.there (.there .here))) (put67 p l x.at_) (And.intro trivial ?_)))
    refine god hT 2 rfl ?_
    conv => whnf
    refine vd_fin rfl ?_
    refine go hT 10000 rfl ?_
    conv => whnf
    refine run_drw hT rfl rfl ?_
    refine god hT 2 rfl ?_
    conv => whnf
    refine q_load hT rfl rfl rfl (.there (.there .here)) rfl ?_
    refine god hT 2 rfl ?_
    conv => whnf
    refine q_g rfl (fun S' => s_listF (rows := [pairV p]) hT rfl rfl rfl rfl rfl rfl rfl rfl ⟨rfl, rfl⟩) ?_
    refine god hT 2 rfl ?_
    conv => whnf
    refine vd_eff1 rfl (eff rfl rfl (s_append hT rfl rfl rfl rfl rfl rfl rfl rfl rfl rfl hx.tok (.there (.there (.there (.there (.there .here))))) (pairV_len _) (pairV_len [p]) (pairV_cell [p]) (by have := hx.row; simp only [List.length_cons, List.length_nil, List.length_map]; omega) fun t' ht' => And.intro trivial ?_))
    refine god hT 2 rfl ?_
    conv => whnf
    refine vd_eff1 rfl (eff rfl rfl (s_store (cs' := modV m ++ [.map ba, .map bc, .slice t' (x.row.map pairV ++ [pairV p])]) hT rfl rfl rfl (.there (.there .here)) rfl (And.intro trivial ?_)))
    refine god hT 2 rfl ?_
    conv => whnf
    refine vd_fin rfl ?_
    refine next_wkT (fr' := []) (S' := fdS m bx ba bc { comeF x p l with rtok := t' }) ⟨trivial, .drop (.drop (by rw [comeF, hf, if_neg (by intro h; cases h), show meet x.at_ p l = l by simp [meet, hf]]; simp only [fdS, List.map_append]; exact .refl _))⟩ ?_
    refine go hT 10000 rfl ?_
    conv => whnf
    exact ret_of .nil ⟨t', ht', rfl⟩
  | some o =>
    rw [hf] at hl
    have hm : meet x.at_ p l = (andI l.1 o.1, orI l.2 o.2) := by simp only [meet, hf]
    refine q_c (fun S' => ∃ f', At S' (.map ba (x.at_.map atE)) f') rfl ⟨_, .there (.there .here)⟩ (fun S' ⟨_, hat⟩ => (g_lookup hT rfl rfl rfl rfl rfl rfl hat hl).qs) ?_
    refine god hT 2 rfl ?_
    conv => whnf
    refine vd_eff1 rfl (eff rfl rfl (s_alloc hT rfl rfl rfl fun b6 => And.intro (And.intro ⟨_, .there (.there (.there .here))⟩ (And.intro ⟨_, _, _, .there (.there .here), rfl⟩ trivial)) ?_))
    refine god hT 2 rfl ?_
    conv => whnf
    refine vd_eff1 rfl (eff rfl rfl (s_store (cs' := pairV o) hT rfl rfl rfl .here rfl (And.intro trivial ?_)))
    refine god hT 2 rfl ?_
    conv => whnf
    refine vd_fin rfl ?_
    refine go hT 10000 rfl ?_
    conv => whnf
    refine ops_g rfl (g_load hT rfl rfl (.there .here) rfl) ?_
    refine go hT 10000 rfl ?_
    conv => whnf
    refine ops_g rfl (g_load hT rfl rfl .here rfl) ?_
    refine go hT 10000 rfl ?_
    conv => whnf
    refine ops_g rfl (g_load hT rfl rfl (.there .here) rfl) ?_
    refine go hT 10000 rfl ?_
    conv => whnf
    refine ops_g rfl (g_load hT rfl rfl .here rfl) ?_
    refine go hT 10000 rfl ?_
    conv => whnf
    refine ops_s rfl (s_store (cs' := pairV (andI l.1 o.1, orI l.2 o.2)) hT rfl rfl rfl (.there .here) rfl ?_)
    refine go hT 10000 rfl ?_
    conv => whnf
    refine ops_g rfl (g_load hT rfl rfl (.there .here) rfl) ?_
    refine go hT 10000 rfl ?_
    conv => whnf
    refine ops_g rfl (g_load hT rfl rfl .here rfl) ?_
    refine go hT 10000 rfl ?_
    conv => whnf
    refine run_split rfl (fun h => ?_) (fun h => ?_)
    · have hne : ¬ some o = some (andI l.1 o.1, orI l.2 o.2) := fun e => by
        have e := Option.some.inj e
        have h1 : decide (andI l.1 o.1 = o.1) = true := decide_eq_true (congrArg Prod.fst e).symm
        have h2 : decide (orI l.2 o.2 = o.2) = true := decide_eq_true (congrArg Prod.snd e).symm
        have h : (!(decide (andI l.1 o.1 = o.1) && (decide (orI l.2 o.2 = o.2) && true))) = true := h
        rw [h1, h2] at h
        cases h
      refine go hT 10000 rfl ?_
      conv => whnf
      refine run_drw hT rfl rfl ?_
      refine god hT 2 rfl ?_
      conv => whnf
      refine q_load hT rfl rfl rfl (.there (.there .here)) rfl ?_
      refine god hT 2 rfl ?_
      conv => whnf
      refine q_load hT rfl rfl rfl (.there .here) rfl ?_
      refine god hT 2 rfl ?_
      conv => whnf
      refine vd_eff1 rfl (eff rfl rfl (s_mapUpdate (es2 := (putM x.at_ p (andI l.1 o.1, orI l.2 o.2)).map atE) hT (.inl rfl) rfl rfl rfl rfl rfl (.there (.there (.there .here))) (put67 p (andI l.1 o.1, orI l.2 o.2) x.at_) (And.intro trivial ?_)))
      refine god hT 2 rfl ?_
      conv => whnf
      refine vd_fin rfl ?_
      refine go hT 10000 rfl ?_
      conv => whnf
      refine run_drw hT rfl rfl ?_
      refine god hT 2 rfl ?_
      conv => whnf
      refine q_load hT rfl rfl rfl (.there (.there .here)) rfl ?_
      refine god hT 2 rfl ?_
      conv => whnf
      refine q_g rfl (fun S' => s_listF (rows := [pairV p]) hT rfl rfl rfl rfl rfl rfl rfl rfl ⟨rfl, rfl⟩) ?_
      refine god hT 2 rfl ?_
      conv => whnf
      refine vd_eff1 rfl (eff rfl rfl (s_append hT rfl rfl rfl rfl rfl rfl rfl rfl rfl rfl hx.tok (.there (.there (.there (.there (.there .here))))) (pairV_len _) (pairV_len [p]) (pairV_cell [p]) (by have := hx.row; simp only [List.length_cons, List.length_nil, List.length_map]; omega) fun t' ht' => And.intro trivial ?_))
      refine god hT 2 rfl ?_
      conv => whnf
      refine vd_eff1 rfl (eff rfl rfl (s_store (cs' := modV m ++ [.map ba, .map bc, .slice t' (x.row.map pairV ++ [pairV p])]) hT rfl rfl rfl (.there (.there .here)) rfl (And.intro trivial ?_)))
      refine god hT 2 rfl ?_
      conv => whnf
      refine vd_fin rfl ?_
      refine next_wkT (fr' := []) (S' := fdS m bx ba bc { comeF x p l with rtok := t' }) ⟨trivial, .drop (.drop (by rw [comeF, hf, hm, if_neg hne]; simp only [fdS, List.map_append]; exact .refl _))⟩ ?_
      refine go hT 10000 rfl ?_
      conv => whnf
      exact ret_of .nil ⟨t', ht', rfl⟩
    · have he : o = (andI l.1 o.1, orI l.2 o.2) := by
        simp only [Bool.not_eq_false', Bool.and_eq_true, decide_eq_true_eq, and_true] at h
        exact (Prod.ext h.1 h.2).symm
      refine run_wkT (fr' := []) (S' := fdS m bx ba bc x) ⟨trivial, .drop (.drop (.refl _))⟩ ?_
      refine go hT 10000 rfl ?_
      conv => whnf
      refine ret_of .nil ⟨x.rtok, hx.tok, ?_⟩
      rw [comeF, hf, hm, if_pos (congrArg some he)]
theorem come (m : MModule) (bx ba bc : Nat) {n : Nat} (x : Fd) (hx : FdOk n x) (hn : n ≤ 60000000) (p l : P2) : VC Tryz.prog 144 [.ptr bx 0, .agg (pairV p), .agg (pairV l)] (fdS m bx ba bc x) fun _ S' => ∃ y, FdOk (n + 1) y ∧ y.pure = comeP x.pure p l ∧ S' = fdS m bx ba bc y :=
  (come0 hT m bx ba bc x ⟨Nat.lt_of_lt_of_le hx.row hn, hx.tok, fun c hc => ⟨Nat.lt_of_lt_of_le (hx.callers c hc).1 hn, (hx.callers c hc).2⟩⟩ p l).mono fun _ _S' ⟨t, ht, e⟩ => ⟨_, come_ok hx p l ht, come_pure x p l t, e⟩
end
end Go.Vw
namespace Go.Vw
open Go.RowKit Go.Am Go.Proofs
attribute [local irreducible] VOps VRun VNext VD VDn VDq Ret
section
variable [Drw] (hT : TabOk tab Tryz.prog)
include hT
theorem indexPlaces {tok : Tok} {xs : List P2} (p : P2) (hl : xs.length < 60000000) : Pure Tryz.prog 305 [.slice tok (xs.map pairV), .agg (pairV p)] (.int .i64 (idxI (fun q => decide (p = q)) xs)) := by
  refine VC.code hT 19 rfl rfl rfl rfl fun F W S0 => ?_
  repeat' (first
    | (refine go hT 10000 rfl ?_; conv => whnf)
    | refine ops_s rfl (s_boxF rfl rfl rfl ?_)
    | refine ops_s rfl (s_listF hT rfl rfl rfl rfl rfl rfl rfl rfl ?_)
    | refine ops_g rfl (g_len hT rfl rfl rfl rfl rfl rfl (List.length_map _)) ?_
    | refine op_guard rfl rfl rfl rfl (fun h => ?_) (fun h => ?_))
  refine run_lq (fun i : Nat => ([(0, .slice tok (xs.map pairV)), (3, .pin (pairV p) 0), (7, .int .i64 xs.length), (8, .int .i64 i)], [])) (fun i => ∀ j (h : j < i) (h' : j < xs.length), decide (p = xs[j]) = false) (fun i => xs.length - i) 0 (fun j h => by omega) ⟨⟨⟨_, rfl, .refl _⟩, ⟨_, rfl, .refl _⟩, ⟨_, rfl, .refl _⟩, ⟨_, rfl, .refl _⟩, trivial⟩, .nil⟩ fun i hi => ?_
  refine go hT 10000 rfl ?_
  conv => whnf
  refine run_split rfl (fun h => ?_) (fun h => ?_)
  · simp only [decide_eq_true_eq, Int.ofNat_lt] at h
    refine go hT 10000 rfl ?_
    conv => whnf
    refine run_drw hT rfl rfl ?_
    repeat' (first
      | (refine god hT 2 rfl ?_; conv => whnf)
      | refine vd_fin rfl ?_
      | refine q_g rfl (fun S' => (g_len hT rfl rfl rfl rfl rfl rfl (List.length_map _)).qs) ?_
      | refine q_guard rfl rfl rfl rfl (fun h => ?_) (fun h => ?_)
      | refine q_g rfl (fun S' => (g_indexM hT rfl rfl rfl rfl rfl h rfl).qs) ?_)
    refine go hT 10000 rfl ?_
    conv => whnf
    refine run_split rfl (fun h2 => ?_) (fun h2 => ?_)
    · have h2 : (decide (p.1 = xs[i].1) && (decide (p.2 = xs[i].2) && true)) = true := h2
      rw [Bool.and_true, ← pair_eq] at h2
      refine go hT 10000 rfl ?_
      conv => whnf
      refine ret_of (.tmp rfl .nil) ?_
      show V.int .i64 (i : Int) = _
      rw [idxI_hit _ xs i h h2 fun j hj => hi j hj (by omega)]
    · have h2 : (decide (p.1 = xs[i].1) && (decide (p.2 = xs[i].2) && true)) = false := h2
      rw [Bool.and_true, ← pair_eq] at h2
      refine go hT 10000 rfl ?_
      conv => whnf
      refine ops_g rfl (g_add rfl rfl rfl (by omega)) ?_
      refine go hT 10000 rfl ?_
      conv => whnf
      refine ⟨i + 1, fun j hj hx => ?_, by omega, ⟨⟨_, rfl, .refl _⟩, ⟨_, rfl, .refl _⟩, ⟨_, rfl, .refl _⟩, ⟨_, rfl, .refl _⟩, trivial⟩, .nil⟩
      by_cases hji : j = i
      · subst hji; exact h2
      · exact hi j (by omega) hx
  · simp only [decide_eq_false_iff_not, Int.ofNat_lt] at h
    refine go hT 10000 rfl ?_
    conv => whnf
    refine ret_of (.tmp rfl .nil) ?_
    rw [idxI_miss _ xs fun j hj => hi j (by omega) hj]
    rfl
theorem containsPlaces {tok : Tok} {xs : List P2} (p : P2) (hl : xs.length < 60000000) : Pure Tryz.prog 248 [.slice tok (xs.map pairV), .agg (pairV p)] (.ob (xs.any fun q => decide (p = q))) := by
  refine VC.code hT 9 rfl rfl rfl rfl fun F W S0 => ?_
  repeat' (first
    | (refine go hT 10000 rfl ?_; conv => whnf)
    | refine ops_s rfl (s_boxF rfl rfl rfl ?_)
    | refine ops_s rfl (s_listF hT rfl rfl rfl rfl rfl rfl rfl rfl ?_)
    | refine ops_g rfl (g_len hT rfl rfl rfl rfl rfl rfl (List.length_map _)) ?_
    | refine op_guard rfl rfl rfl rfl (fun h => ?_) (fun h => ?_)
    | refine ops_s rfl (s_pure hT rfl rfl rfl rfl rfl rfl (indexPlaces hT p hl) ?_))
  refine ret_of (.tmp rfl .nil) ?_
  rw [← idxI_ge]; rfl
end
end Go.Vw
namespace Go.Vw
open Go.RowKit Go.Am Go.Proofs
attribute [local irreducible] VOps VRun VNext VD VDn VDq Ret
/-! ### who calls -/
def findC : List (Int × Tok × List P2) → Int → Option (Tok × List P2)
  | [], _ => none
  | c :: r, a => if a = c.1 then some c.2 else findC r a
def addC : List (Int × Tok × List P2) → Int → Tok → P2 → List (Int × Tok × List P2)
  | [], a, t, b => [(a, t, [b])]
  | c :: r, a, t, b => if a = c.1 then (a, t, c.2.2 ++ [b]) :: r else c :: addC r a t b
def findP : List (Int × List P2) → Int → Option (List P2)
  | [], _ => none
  | c :: r, a => if a = c.1 then some c.2 else findP r a
def addP : List (Int × List P2) → Int → P2 → List (Int × List P2)
  | [], a, b => [(a, [b])]
  | c :: r, a, b => if a = c.1 then (a, c.2 ++ [b]) :: r else c :: addP r a b
theorem findC_pure (a : Int) : ∀ C : List (Int × Tok × List P2), findP (C.map fun c => (c.1, c.2.2)) a = (findC C a).map (·.2)
  | [] => rfl
  | c :: r => by
    simp only [List.map_cons, findP, findC]
    by_cases h : a = c.1
    · rw [if_pos h, if_pos h]; rfl
    · rw [if_neg h, if_neg h]; exact findC_pure a r
theorem addC_pure (a : Int) (t : Tok) (b : P2) : ∀ C : List (Int × Tok × List P2), ((addC C a t b).map fun c => (c.1, c.2.2)) = addP (C.map fun c => (c.1, c.2.2)) a b
  | [] => rfl
  | c :: r => by
    simp only [List.map_cons, addP, addC]
    by_cases h : a = c.1
    · rw [if_pos h, if_pos h]; rfl
    · rw [if_neg h, if_neg h, List.map_cons, addC_pure a t b r]
theorem key3 (a b : Int) : keyB tab 3 (.int .i64 a) (.int .i64 b) = some (decide (a = b)) := by rfl
def sliceP (c : Tok × List P2) : V := .slice c.1 (c.2.map pairV)
theorem look3 (a : Int) : ∀ C : List (Int × Tok × List P2), LookV tab 3 (.int .i64 a) (C.map callE) ((findC C a).map sliceP)
  | [] => .nil
  | c :: r => by
    unfold findC
    by_cases h : a = c.1
    · rw [if_pos h]
      exact .hit (by rw [key3, decide_eq_true h])
    · rw [if_neg h]
      exact .miss (by rw [key3, decide_eq_false h]) (look3 a r)
theorem put3 (a : Int) (t : Tok) (b : P2) : ∀ C : List (Int × Tok × List P2), PutV tab 3 (.int .i64 a) (.slice t ((((findC C a).map (·.2)).getD []).map pairV ++ [pairV b])) (C.map callE) ((addC C a t b).map callE)
  | [] => .nil
  | c :: r => by
    unfold findC addC
    by_cases h : a = c.1
    · rw [if_pos h, if_pos h]
      have : callE c = (.int .i64 a, .slice c.2.1 (c.2.2.map pairV)) := by rw [h]; rfl
      rw [List.map_cons, this, List.map_cons]
      have e2 : callE (a, t, c.2.2 ++ [b]) = (.int .i64 a, .slice t (c.2.2.map pairV ++ [pairV b])) := by
        unfold callE; rw [List.map_append]; rfl
      rw [e2]
      exact .hit (by rw [key3, decide_eq_true rfl])
    · rw [if_neg h, if_neg h]
      exact .miss (by rw [key3, decide_eq_false h]) (put3 a t b r)
def tlE (c : Int × Tok × List P2) : HE := .tl c.2.1
theorem at3 (a : Int) (b : P2) {t : Tok} {l : List P2} : ∀ C : List (Int × Tok × List P2), findC C a = some (t, l) → ∃ f, At (C.map tlE) (.tl t) f ∧ ∀ t', f (.tl t') = (addC C a t' b).map tlE
  | [], h => by cases h
  | c :: r, h => by
    unfold findC at h
    by_cases hc : a = c.1
    · rw [if_pos hc] at h
      have h1 := Option.some.inj h
      refine ⟨fun x => x :: r.map tlE, ?_, fun t' => ?_⟩
      · have : tlE c = .tl t := by unfold tlE; rw [h1]
        rw [List.map_cons, this]; exact .here
      · unfold addC; rw [if_pos hc]; rfl
    · rw [if_neg hc] at h
      obtain ⟨f, h1, h2⟩ := at3 a b r h
      refine ⟨fun x => tlE c :: f x, .there h1, fun t' => ?_⟩
      unfold addC; rw [if_neg hc, List.map_cons]; show tlE c :: f (HE.tl t') = _; rw [h2]
theorem at3n (a : Int) (b : P2) : ∀ C : List (Int × Tok × List P2), findC C a = none → ∃ f, At (C.map tlE ++ [.tl .zero]) (.tl .zero) f ∧ ∀ t', f (.tl t') = (addC C a t' b).map tlE
  | [], _ => ⟨fun x => [x], .here, fun t' => rfl⟩
  | c :: r, h => by
    unfold findC at h
    by_cases hc : a = c.1
    · rw [if_pos hc] at h; cases h
    · rw [if_neg hc] at h
      obtain ⟨f, h1, h2⟩ := at3n a b r h
      refine ⟨fun x => tlE c :: f x, .there h1, fun t' => ?_⟩
      unfold addC; rw [if_neg hc, List.map_cons]; show tlE c :: f (HE.tl t') = _; rw [h2]
theorem Sub.endZero : ∀ S : Hp, Sub S (S ++ [.tl .zero])
  | [] => .zero .nil
  | _ :: S => .keep (Sub.endZero S)
theorem addC_ok {n : Nat} {a : Int} {t : Tok} {b : P2} (ht : tokB 2 t = true) : ∀ {C : List (Int × Tok × List P2)}, (∀ c ∈ C, c.2.2.length < n ∧ tokB 2 c.2.1 = true) → 0 < n → ∀ c ∈ addC C a t b, c.2.2.length < n + 1 ∧ tokB 2 c.2.1 = true
  | [], _, hn, c, hc => by
    rcases List.mem_cons.1 hc with rfl | hc
    · exact ⟨by show 1 < n + 1; omega, ht⟩
    · cases hc
  | x :: r, h, hn, c, hc => by
    unfold addC at hc
    by_cases ha : a = x.1
    · rw [if_pos ha] at hc
      rcases List.mem_cons.1 hc with rfl | hc
      · have := (h x (List.mem_cons_self ..)).1
        exact ⟨by show (x.2.2 ++ [b]).length < n + 1; rw [List.length_append, List.length_singleton]; omega, ht⟩
      · have := h c (List.mem_cons_of_mem _ hc)
        exact ⟨by omega, this.2⟩
    · rw [if_neg ha] at hc
      rcases List.mem_cons.1 hc with rfl | hc
      · have := h c (List.mem_cons_self ..)
        exact ⟨by omega, this.2⟩
      · exact addC_ok ht (fun c hc => h c (List.mem_cons_of_mem _ hc)) hn c hc
end Go.Vw
namespace Go.Vw
open Go.RowKit Go.Am Go.Proofs
attribute [local irreducible] VOps VRun VNext VD VDn VDq Ret
def retLoop (x : Fp) (a : Int) (back : P2) : Nat → List MOp → Fp
  | _, [] => x
  | i, o :: r => retLoop (match findM x.at_ (a, (i : Int)) with | some e => if o.kind = 23 then comeP x back e else x | none => x) a back (i + 1) r
def addBack (x : Fp) (a : Int) (back : P2) : Fp := if (((findP x.callers a).getD []).any fun q => decide (back = q)) = true then x else { x with callers := addP x.callers a back }
def callP (m : MModule) (x : Fp) (p : P2) (o : MOp) (l : P2) : Fp := retLoop (comeP (addBack x o.a (p.1, o.next)) (o.a, 0) l) o.a (p.1, o.next) 0 (m.fn o.a).code
theorem findC_mem : ∀ {C : List (Int × Tok × List P2)} {a : Int} {c : Tok × List P2}, findC C a = some c → ∃ a', (a', c) ∈ C
  | [], _, _, h => by cases h
  | x :: r, a, c, h => by
    unfold findC at h
    by_cases hc : a = x.1
    · rw [if_pos hc] at h
      exact ⟨x.1, by rw [← Option.some.inj h]; exact List.mem_cons_self ..⟩
    · rw [if_neg hc] at h
      obtain ⟨a', h'⟩ := findC_mem h
      exact ⟨a', List.mem_cons_of_mem _ h'⟩
theorem FdOk.mono {n k : Nat} {x : Fd} (h : FdOk n x) (hn : n ≤ k) : FdOk k x := ⟨Nat.lt_of_lt_of_le h.row hn, h.tok, fun c hc => ⟨Nat.lt_of_lt_of_le (h.callers c hc).1 hn, (h.callers c hc).2⟩⟩
theorem add_ok {n : Nat} {x : Fd} (h : FdOk n x) (a : Int) {t : Tok} (ht : tokB 2 t = true) (b : P2) : FdOk (n + 1) { x with callers := addC x.callers a t b } := ⟨by have := h.row; show x.row.length < n + 1; omega, h.tok, addC_ok ht h.callers (by have := h.row; omega)⟩
section
variable [Drw] (hT : TabOk tab Tryz.prog)
include hT
set_option maxHeartbeats 1000000 in
theorem call (m : MModule) (bx ba bc : Nat) {n : Nat} (x : Fd) (hx : FdOk n x) (p l : P2) (o : MOp) (ha : belowB m.funcs.length [o.a] = true) (hc : (m.fn o.a).code.length ≤ 4096) (hn : n + 5000 ≤ 60000000) :
    VC Tryz.prog 198 [.ptr bx 0, .agg (pairV p), .agg (opV o), .agg (pairV l)] (fdS m bx ba bc x) fun _ S' => ∃ y, FdOk (n + 2 + (m.fn o.a).code.length) y ∧ y.pure = callP m x.pure p o l ∧ S' = fdS m bx ba bc y := by
  refine VC.code hT 89 rfl rfl rfl rfl fun F W S0 => ?_
  repeat' (first
    | (refine go hT 10000 rfl ?_; conv => whnf)
    | refine ops_s rfl (s_boxF rfl rfl rfl ?_)
    | refine ops_s rfl (s_listF hT rfl rfl rfl rfl rfl rfl rfl rfl ?_)
    | refine ops_g rfl (g_len hT rfl rfl rfl rfl rfl rfl (List.length_map _)) ?_
    | refine op_guard rfl rfl rfl rfl (fun h => ?_) (fun h => ?_))
  refine ops_s rfl (s_alloc hT rfl rfl rfl fun b8 => ?_)
  refine go hT 10000 rfl ?_
  conv => whnf
  refine ops_s rfl (s_store (cs' := pairV (p.1, o.next)) hT rfl rfl rfl .here rfl ?_)
  refine ops_freezeH (t := 8) rfl ?_
  refine go hT 10000 rfl ?_
  conv => whnf
  have hl := look3 o.a x.callers
  have hput := fun t => put3 o.a t (p.1, o.next) x.callers
  have hp0 := findC_pure o.a x.callers
  have hn0 : 0 < n := by have := hx.row; omega
  intro id
  refine run_cutK 1 (fun y : Fd => ([(0, .ptr bx 0), (6, .pin (opV o) 0), (7, .pin (pairV l) 0), (8, .pin (pairV (p.1, o.next)) 0)], fdS m bx ba bc y)) (fun y => FdOk (n + 1) y ∧ y.pure = addBack x.pure o.a (p.1, o.next)) ?_ ?_
  · refine run_drw hT rfl rfl ?_ id
    refine god hT 2 rfl ?_
    conv => whnf
    refine q_load hT rfl rfl rfl .here rfl ?_
    refine god hT 2 rfl ?_
    conv => whnf
    cases hf : findC x.callers o.a with
    | none =>
      rw [hf] at hl hp0
      rw [hf] at hput
      refine q_c (fun S' => ∃ f', At S' (.map bc (x.callers.map callE)) f') rfl ⟨_, .there (.there .here)⟩ (fun S' ⟨_, hat⟩ => (g_lookup hT rfl rfl rfl rfl rfl rfl hat hl).qs) ?_
      refine god hT 2 rfl ?_
      conv => whnf
      refine q_g rfl (fun S' => s_pure hT rfl rfl rfl rfl rfl rfl (containsPlaces hT (xs := []) (p.1, o.next) (by decide)) ⟨rfl, rfl⟩) ?_
      refine god hT 2 rfl ?_
      conv => whnf
      refine vd_fin rfl ?_
      refine go hT 10000 rfl ?_
      conv => whnf
      refine run_split rfl (fun h => ?_) (fun h => by cases h)
      refine go hT 10000 rfl ?_
      conv => whnf
      intro id
      obtain ⟨f3, h3, h3'⟩ := at3n o.a (p.1, o.next) x.callers hf
      refine run_sub (.keep (.keep (.keep (.keep (Sub.endZero _))))) ?_
      refine run_drw hT rfl rfl ?_ id
      refine god hT 2 rfl ?_
      conv => whnf
      refine q_load hT rfl rfl rfl .here rfl ?_
      refine god hT 2 rfl ?_
      conv => whnf
      refine q_load hT rfl rfl rfl .here rfl ?_
      refine god hT 2 rfl ?_
      conv => whnf
      refine q_c (fun S' => ∃ f', At S' (.map bc (x.callers.map callE)) f') rfl ⟨_, .there (.there .here)⟩ (fun S' ⟨_, hat⟩ => (g_lookup hT rfl rfl rfl rfl rfl rfl hat hl).qs) ?_
      refine god hT 2 rfl ?_
      conv => whnf
      refine q_g rfl (fun S' => s_listF (rows := [pairV (p.1, o.next)]) hT rfl rfl rfl rfl rfl rfl rfl rfl ⟨rfl, rfl⟩) ?_
      refine god hT 2 rfl ?_
      conv => whnf
      refine vd_eff1 rfl (eff rfl rfl (s_append hT rfl rfl rfl rfl rfl rfl rfl rfl rfl rfl rfl (.there (.there (.there (.there h3)))) (fun r hr => by cases hr) (pairV_len [(p.1, o.next)]) (pairV_cell [(p.1, o.next)]) (by show 0 + 1 < 67108864; decide) fun t' ht' => And.intro (And.intro ⟨_, _, _, .here, rfl⟩ trivial) ?_))
      refine god hT 2 rfl ?_
      conv => whnf
      refine vd_eff1 rfl (eff rfl rfl (s_mapUpdate (es2 := (addC x.callers o.a t' (p.1, o.next)).map callE) hT (.inl rfl) rfl rfl rfl rfl rfl (.there (.there .here)) (hput t') (And.intro trivial ?_)))
      refine god hT 2 rfl ?_
      conv => whnf
      refine vd_fin rfl ?_
      refine go hT 10000 rfl ?_
      conv => whnf
      refine ⟨{ x with callers := addC x.callers o.a t' (p.1, o.next) }, ⟨add_ok hx o.a ht' _, ?_⟩, ⟨⟨_, rfl, .refl _⟩, ⟨_, rfl, .refl _⟩, ⟨_, rfl, .refl _⟩, ⟨_, rfl, .refl _⟩, trivial⟩, by rw [h3' t']; exact .refl _⟩
      unfold addBack
      rw [show x.pure.callers = x.callers.map fun c => (c.1, c.2.2) from rfl, hp0, if_neg (by intro e; cases e)]
      unfold Fd.pure
      rw [addC_pure]
    | some c =>
      obtain ⟨tk, ps⟩ := c
      rw [hf] at hl hp0
      rw [hf] at hput
      obtain ⟨a', hmem⟩ := findC_mem hf
      have hok := hx.callers _ hmem
      refine q_c (fun S' => ∃ f', At S' (.map bc (x.callers.map callE)) f') rfl ⟨_, .there (.there .here)⟩ (fun S' ⟨_, hat⟩ => (g_lookup hT rfl rfl rfl rfl rfl rfl hat hl).qs) ?_
      refine god hT 2 rfl ?_
      conv => whnf
      refine q_g rfl (fun S' => s_pure hT rfl rfl rfl rfl rfl rfl (containsPlaces hT (xs := ps) (p.1, o.next) (by have := hok.1; dsimp only at this; omega)) ⟨rfl, rfl⟩) ?_
      refine god hT 2 rfl ?_
      conv => whnf
      refine vd_fin rfl ?_
      refine go hT 10000 rfl ?_
      conv => whnf
      refine run_split rfl (fun h => ?_) (fun h => ?_)
      rotate_left
      · refine go hT 10000 rfl ?_
        conv => whnf
        refine ⟨x, ⟨hx.mono (by omega), ?_⟩, ⟨⟨_, rfl, .refl _⟩, ⟨_, rfl, .refl _⟩, ⟨_, rfl, .refl _⟩, ⟨_, rfl, .refl _⟩, trivial⟩, .refl _⟩
        unfold addBack
        rw [show x.pure.callers = x.callers.map fun c => (c.1, c.2.2) from rfl, hp0, if_pos (by simpa using h)]
      refine go hT 10000 rfl ?_
      conv => whnf
      intro id
      obtain ⟨f3, h3, h3'⟩ := at3 o.a (p.1, o.next) x.callers hf
      refine run_drw hT rfl rfl ?_ id
      refine god hT 2 rfl ?_
      conv => whnf
      refine q_load hT rfl rfl rfl .here rfl ?_
      refine god hT 2 rfl ?_
      conv => whnf
      refine q_load hT rfl rfl rfl .here rfl ?_
      refine god hT 2 rfl ?_
      conv => whnf
      refine q_c (fun S' => ∃ f', At S' (.map bc (x.callers.map callE)) f') rfl ⟨_, .there (.there .here)⟩ (fun S' ⟨_, hat⟩ => (g_lookup hT rfl rfl rfl rfl rfl rfl hat hl).qs) ?_
      refine god hT 2 rfl ?_
      conv => whnf
      refine q_g rfl (fun S' => s_listF (rows := [pairV (p.1, o.next)]) hT rfl rfl rfl rfl rfl rfl rfl rfl ⟨rfl, rfl⟩) ?_
      refine god hT 2 rfl ?_
      conv => whnf
      refine vd_eff1 rfl (eff rfl rfl (s_append hT rfl rfl rfl rfl rfl rfl rfl rfl rfl rfl hok.2 (.there (.there (.there (.there h3)))) (pairV_len ps) (pairV_len [(p.1, o.next)]) (pairV_cell [(p.1, o.next)]) (by have := hok.1; dsimp only at this; simp only [List.length_cons, List.length_nil, List.length_map]; omega) fun t' ht' => And.intro (And.intro ⟨_, _, _, .here, rfl⟩ trivial) ?_))
      refine god hT 2 rfl ?_
      conv => whnf
      refine vd_eff1 rfl (eff rfl rfl (s_mapUpdate (es2 := (addC x.callers o.a t' (p.1, o.next)).map callE) hT (.inl rfl) rfl rfl rfl rfl rfl (.there (.there .here)) (hput t') (And.intro trivial ?_)))
      refine god hT 2 rfl ?_
      conv => whnf
      refine vd_fin rfl ?_
      refine go hT 10000 rfl ?_
      conv => whnf
      refine ⟨{ x with callers := addC x.callers o.a t' (p.1, o.next) }, ⟨add_ok hx o.a ht' _, ?_⟩, ⟨⟨_, rfl, .refl _⟩, ⟨_, rfl, .refl _⟩, ⟨_, rfl, .refl _⟩, ⟨_, rfl, .refl _⟩, trivial⟩, by rw [h3' t']; exact .refl _⟩
      unfold addBack
      rw [show x.pure.callers = x.callers.map fun c => (c.1, c.2.2) from rfl, hp0, if_neg (fun e => by rw [Bool.not_eq_true'] at h; exact Bool.noConfusion (h.symm.trans e))]
      unfold Fd.pure
      rw [addC_pure]
  · rintro y ⟨hy, ey⟩
    refine go hT 10000 rfl ?_
    conv => whnf
    refine ops_s rfl (s_call hT rfl rfl rfl rfl rfl rfl ((come hT m bx ba bc y hy (by omega) (o.a, 0) l).mono ?_))
    rintro v _ ⟨z, hz, ez, rfl⟩
    refine go hT 10000 rfl ?_
    conv => whnf
    intro id
    refine run_drw hT rfl rfl ?_ id
    repeat' (first
      | (refine god hT 2 rfl ?_; conv => whnf)
      | refine vd_fin rfl ?_
      | refine q_g rfl (fun S' => (g_len hT rfl rfl rfl rfl rfl rfl (List.length_map _)).qs) ?_
      | refine q_guard rfl rfl rfl rfl (fun h => ?_) (fun h => ?_)
      | refine q_load hT rfl rfl rfl .here rfl ?_
      | refine q_g rfl (fun S' => (g_funcs hT rfl rfl rfl ha).qs) ?_)
    refine go hT 10000 rfl ?_
    conv => whnf
    have step : ∀ (u : Fp) (i : Nat) (h : i < (m.fn o.a).code.length), retLoop u o.a (p.1, o.next) i ((m.fn o.a).code.drop i) = retLoop (match findM u.at_ (o.a, (i : Int)) with | some e => if (m.fn o.a).code[i].kind = 23 then comeP u (p.1, o.next) e else u | none => u) o.a (p.1, o.next) (i + 1) ((m.fn o.a).code.drop (i + 1)) := fun u i h => by
      rw [List.drop_eq_getElem_cons h]; rfl
    refine run_lq (fun w : Nat × Fd => ([(0, .ptr bx 0), (6, .pin (opV o) 0), (8, .pin (pairV (p.1, o.next)) 0), (59, .slice .no ((m.fn o.a).code.map opV)), (60, .int .i64 (m.fn o.a).code.length), (61, .int .i64 w.1)], fdS m bx ba bc w.2)) (fun w => FdOk (n + 2 + w.1) w.2 ∧ w.1 ≤ (m.fn o.a).code.length ∧ retLoop w.2.pure o.a (p.1, o.next) w.1 ((m.fn o.a).code.drop w.1) = callP m x.pure p o l) (fun w => (m.fn o.a).code.length - w.1) (0, z) ⟨hz, Nat.zero_le _, by dsimp only; rw [ez, ey]; rfl⟩ ⟨⟨⟨_, rfl, .refl _⟩, ⟨_, rfl, .refl _⟩, ⟨_, rfl, .refl _⟩, ⟨_, rfl, .refl _⟩, ⟨_, rfl, .refl _⟩, ⟨_, rfl, .refl _⟩, trivial⟩, .refl _⟩ ?_
    rintro ⟨i, y⟩ ⟨hy, hi, ey⟩
    dsimp only at hy hi ey
    refine go hT 10000 rfl ?_
    conv => whnf
    refine run_split rfl (fun hlt => ?_) (fun hlt => ?_)
    · simp only [decide_eq_true_eq, Int.ofNat_lt] at hlt
      rw [step _ _ hlt] at ey
      have h67 := look67 (o.a, (i : Int)) y.at_
      refine go hT 10000 rfl ?_
      conv => whnf
      refine ops_g rfl (g_indexM hT rfl rfl rfl rfl rfl hlt rfl) ?_
      refine go hT 10000 rfl ?_
      conv => whnf
      refine ops_s rfl (s_alloc hT rfl rfl rfl fun b10 => ?_)
      refine go hT 10000 rfl ?_
      conv => whnf
      refine ops_s rfl (s_store (cs' := opV (m.fn o.a).code[i]) hT rfl rfl rfl .here rfl ?_)
      refine ops_freezeH (t := 10) rfl ?_
      refine go hT 10000 rfl ?_
      conv => whnf
      intro id
      refine run_drw hT rfl rfl ?_ id
      refine god hT 2 rfl ?_
      conv => whnf
      refine q_load hT rfl rfl rfl .here rfl ?_
      refine god hT 2 rfl ?_
      conv => whnf
      cases hf : findM y.at_ (o.a, (i : Int)) with
      | none =>
        rw [hf] at h67
        have hf' : findM y.pure.at_ (o.a, (i : Int)) = none := hf
        rw [hf'] at ey
        refine q_c (fun S' => ∃ f', At S' (.map ba (y.at_.map atE)) f') rfl ⟨_, .there .here⟩ (fun S' ⟨_, hat⟩ => (g_lookup hT rfl rfl rfl rfl rfl rfl hat h67).qs) ?_
        refine god hT 2 rfl ?_
        conv => whnf
        refine vd_eff1 rfl (eff rfl rfl (s_alloc hT rfl rfl rfl fun b11 => And.intro (And.intro ⟨_, .there (.there .here)⟩ (And.intro ⟨_, _, _, .there .here, rfl⟩ trivial)) ?_))
        refine god hT 2 rfl ?_
        conv => whnf
        refine vd_eff1 rfl (eff rfl rfl (s_store (cs' := pairV (0, 0)) hT rfl rfl rfl .here rfl (And.intro trivial ?_)))
        refine god hT 2 rfl ?_
        conv => whnf
        refine vd_fin rfl ?_
        refine next_freezeH (t := 11) rfl ?_
        refine go hT 10000 rfl ?_
        conv => whnf
        refine ops_g rfl (g_add rfl rfl rfl (by dsimp only; omega)) ?_
        refine go hT 10000 rfl ?_
        conv => whnf
        exact ⟨(i + 1, y), ⟨hy.mono (by dsimp only; omega), by dsimp only; omega, ey⟩, by dsimp only; omega, ⟨⟨_, rfl, .refl _⟩, ⟨_, rfl, .refl _⟩, ⟨_, rfl, .refl _⟩, ⟨_, rfl, .refl _⟩, ⟨_, rfl, .refl _⟩, ⟨_, rfl, .refl _⟩, trivial⟩, .refl _⟩
      | some e =>
        rw [hf] at h67
        refine q_c (fun S' => ∃ f', At S' (.map ba (y.at_.map atE)) f') rfl ⟨_, .there .here⟩ (fun S' ⟨_, hat⟩ => (g_lookup hT rfl rfl rfl rfl rfl rfl hat h67).qs) ?_
        refine god hT 2 rfl ?_
        conv => whnf
        refine vd_eff1 rfl (eff rfl rfl (s_alloc hT rfl rfl rfl fun b11 => And.intro (And.intro ⟨_, .there (.there .here)⟩ (And.intro ⟨_, _, _, .there .here, rfl⟩ trivial)) ?_))
        refine god hT 2 rfl ?_
        conv => whnf
        refine vd_eff1 rfl (eff rfl rfl (s_store (cs' := pairV e) hT rfl rfl rfl .here rfl (And.intro trivial ?_)))
        refine god hT 2 rfl ?_
        conv => whnf
        refine vd_fin rfl ?_
        refine next_freezeH (t := 11) rfl ?_
        refine go hT 10000 rfl ?_
        conv => whnf
        refine run_split rfl (fun hk => ?_) (fun hk => ?_)
        · have hk := of_decide_eq_true hk
          refine go hT 10000 rfl ?_
          conv => whnf
          refine ops_s rfl (s_call hT rfl rfl rfl rfl rfl rfl ((come hT m bx ba bc y hy (by omega) (p.1, o.next) e).mono ?_))
          rintro v _ ⟨z, hz, ez, rfl⟩
          refine go hT 10000 rfl ?_
          conv => whnf
          refine ops_g rfl (g_add rfl rfl rfl (by dsimp only; omega)) ?_
          refine go hT 10000 rfl ?_
          conv => whnf
          refine ⟨(i + 1, z), ⟨hz, by dsimp only; omega, ?_⟩, by dsimp only; omega, ⟨⟨_, rfl, .refl _⟩, ⟨_, rfl, .refl _⟩, ⟨_, rfl, .refl _⟩, ⟨_, rfl, .refl _⟩, ⟨_, rfl, .refl _⟩, ⟨_, rfl, .refl _⟩, trivial⟩, .refl _⟩
          dsimp only
          rw [ez, ← ey]
          have : findM y.pure.at_ (o.a, (i : Int)) = some e := hf
          rw [this]
          simp only [hk, if_true]
        · have hk := of_decide_eq_false hk
          refine go hT 10000 rfl ?_
          conv => whnf
          refine ops_g rfl (g_add rfl rfl rfl (by dsimp only; omega)) ?_
          refine go hT 10000 rfl ?_
          conv => whnf
          refine ⟨(i + 1, y), ⟨hy.mono (by dsimp only; omega), by dsimp only; omega, ?_⟩, by dsimp only; omega, ⟨⟨_, rfl, .refl _⟩, ⟨_, rfl, .refl _⟩, ⟨_, rfl, .refl _⟩, ⟨_, rfl, .refl _⟩, ⟨_, rfl, .refl _⟩, ⟨_, rfl, .refl _⟩, trivial⟩, .refl _⟩
          dsimp only
          rw [← ey]
          have : findM y.pure.at_ (o.a, (i : Int)) = some e := hf
          rw [this]
          simp only [hk, if_false]
    · simp only [decide_eq_false_iff_not, Int.ofNat_lt] at hlt
      have hie : i = (m.fn o.a).code.length := by omega
      subst hie
      rw [List.drop_length] at ey
      refine go hT 10000 rfl ?_
      conv => whnf
      exact ret_of .nil ⟨y, hy, ey, rfl⟩
end
end Go.Vw
namespace Go.Vw
open Go.RowKit Go.Am Go.Proofs
attribute [local irreducible] VOps VRun VNext VD VDn VDq Ret
def bitI (a : Int) : Int := IntKind.i64.wrap (1 * 2 ^ (min (IntKind.u64.wrap a).toNat IntKind.i64.bits))
def MFunc.op (f : MFunc) (i : Int) : MOp := (f.code[i.toNat]?).getD ⟨0, 0, 0, 0, 0, 0, 0, 0, [], 0, 0, 0⟩
def leaveL (o : MOp) (l : P2) : P2 := if o.kind = 16 then (orI l.1 (bitI o.a), orI l.2 (bitI o.a)) else if o.kind = 17 then (andNotI l.1 (bitI o.a), andNotI l.2 (bitI o.a)) else l
def leaveP (m : MModule) (x : Fp) (p : P2) : Fp :=
  let o := (m.fn p.1).op p.2
  let l := (findM x.at_ p).getD (0, 0)
  if o.kind = 23 then ((findP x.callers p.1).getD []).foldl (fun x b => comeP x b l) x
  else if o.kind = 22 then callP m x p o l
  else comeP (if o.kind = 21 then comeP x (p.1, o.els) l else x) (p.1, o.next) (leaveL o l)
section
variable {P : Program} {S : Hp} {o : Oper} {ρ : Operand → Option V}
theorem g_shl1 {t z : TypeId} {x y : Operand} {a : Int} (ho : o.op = .binOp .shl t x y z) (hx : ρ x = some (.int .i64 1)) (hy : ρ y = some (.int .u64 (IntKind.u64.wrap a))) : QG P o ρ S (.int .i64 (bitI a)) :=
  g_int (u := .int .i64 (bitI a)) ho hx hy (by
    have : 0 ≤ IntKind.u64.wrap a := by simp [IntKind.wrap, IntKind.bits, IntKind.signed]; omega
    simp only [intOp, decide_eq_false (by omega : ¬ IntKind.u64.wrap a < 0), cond_false]
    rfl)
end
section
variable [Drw] (hT : TabOk tab Tryz.prog)
include hT
set_option maxHeartbeats 2000000 in
theorem leave (m : MModule) (bx ba bc : Nat) {n : Nat} (x : Fd) (hx : FdOk n x) (p : P2) (hm : ∀ f ∈ m.funcs, OkF f) (ha : belowB m.funcs.length [p.1] = true) (hp : 0 ≤ p.2 ∧ p.2 < (m.fn p.1).code.length)
    (hcall : ((m.fn p.1).op p.2).kind = 22 → belowB m.funcs.length [((m.fn p.1).op p.2).a] = true) (k : Nat) (hk : k = n + ((findC x.callers p.1).map (·.2.length)).getD 0 + 5000) (hn : k ≤ 60000000) :
    VC Tryz.prog 145 [.ptr bx 0, .agg (pairV p)] (fdS m bx ba bc x) fun _ S' => ∃ y, FdOk k y ∧ y.pure = leaveP m x.pure p ∧ S' = fdS m bx ba bc y := by
  have hlt : p.2.toNat < (m.fn p.1).code.length := by omega
  have hop : ((m.fn p.1).code.map opV)[p.2.toNat]? = some (opV ((m.fn p.1).op p.2)) := by
    unfold MFunc.op
    rw [List.getElem?_map, List.getElem?_eq_getElem hlt]; rfl
  have hlook : ∃ r, LookV tab 256 (.agg (pairV p)) (x.at_.map atE) r ∧ lookRes (.agg (pairV (0, 0))) false r = .agg (pairV ((findM x.pure.at_ p).getD (0, 0))) := by
    refine ⟨_, look67 p x.at_, ?_⟩
    show lookRes _ false ((findM x.at_ p).map _) = .agg (pairV ((findM x.at_ p).getD (0, 0)))
    cases findM x.at_ p <;> rfl
  obtain ⟨r, hr, hres⟩ := hlook
  have hlook : ∃ r tk ps, LookV tab 3 (.int .i64 p.1) (x.callers.map callE) r ∧ lookRes (.slice .zero []) false r = .slice tk (ps.map pairV) ∧ (findP x.pure.callers p.1).getD [] = ps ∧ ps.length = ((findC x.callers p.1).map (·.2.length)).getD 0 := by
    have e : findP x.pure.callers p.1 = (findC x.callers p.1).map (·.2) := findC_pure p.1 x.callers
    have l3 := look3 p.1 x.callers
    rw [e]
    cases hf : findC x.callers p.1 with
    | none => exact ⟨_, .zero, [], by rw [hf] at l3; exact l3, rfl, rfl, rfl⟩
    | some c => exact ⟨_, c.1, c.2, by rw [hf] at l3; exact l3, rfl, rfl, rfl⟩
  obtain ⟨r3, tk, ps, hr3, hres3, hps, hlen⟩ := hlook
  generalize ho : (m.fn p.1).op p.2 = o at hop hcall
  generalize hlv : (findM x.pure.at_ p).getD (0, 0) = l at hres
  refine VC.code hT 110 rfl rfl rfl rfl fun F W S0 => ?_
  repeat' (first
    | (refine go hT 10000 rfl ?_; conv => whnf)
    | refine ops_s rfl (s_boxF rfl rfl rfl ?_)
    | refine ops_s rfl (s_listF hT rfl rfl rfl rfl rfl rfl rfl rfl ?_)
    | refine ops_g rfl (g_len hT rfl rfl rfl rfl rfl rfl (List.length_map _)) ?_
    | refine op_guard rfl rfl rfl rfl (fun h => ?_) (fun h => ?_))
  intro id
  refine run_cutK 0 (fun b5 : Nat => ([(0, .ptr bx 0), (3, .pin (pairV p) 0), (4, .pin (opV o) 0), (5, .ptr b5 0)], .cells b5 (pairV l) 258 :: fdS m bx ba bc x)) (fun _ => True) ?_ ?_
  · refine run_drw hT rfl rfl ?_ id
    refine god hT 2 rfl ?_
    conv => whnf
    refine q_load hT rfl rfl rfl .here rfl ?_
    refine god hT 2 rfl ?_
    conv => whnf
    refine q_g rfl (fun S' => (g_funcs hT rfl rfl rfl ha).qs) ?_
    refine god hT 2 rfl ?_
    conv => whnf
    refine q_g rfl (fun S' => (g_index (r := opV o) hT rfl rfl rfl rfl rfl hp.1 hop rfl).qs) ?_
    refine god hT 2 rfl ?_
    conv => whnf
    refine q_load hT rfl rfl rfl .here rfl ?_
    refine god hT 2 rfl ?_
    conv => whnf
    refine q_c (v := .agg (pairV l)) (fun S' => ∃ f', At S' (.map ba (x.at_.map atE)) f') rfl ⟨_, .there .here⟩ (fun S' ⟨_, hat⟩ => hres ▸ (g_lookup (z := .agg (pairV (0, 0))) hT rfl rfl rfl rfl rfl rfl hat hr).qs) ?_
    refine god hT 2 rfl ?_
    conv => whnf
    refine vd_eff2 rfl (eff rfl rfl (s_alloc hT rfl rfl rfl fun b4 => And.intro (And.intro ⟨_, (.there (.there .here))⟩ (And.intro ⟨_, _, _, (.there .here), rfl⟩ (And.intro ⟨_, _, _, (.there .here), rfl⟩ trivial))) ?_)) (eff rfl rfl (s_alloc hT rfl rfl rfl fun b5 => And.intro (And.intro ⟨_, (.there (.there .here))⟩ (And.intro ⟨_, _, _, (.there .here), rfl⟩ (And.intro ⟨_, _, _, (.there .here), rfl⟩ trivial))) ?_))
    · refine god hT 2 rfl ?_
      conv => whnf
      refine vd_eff1 rfl (eff rfl rfl (s_alloc hT rfl rfl rfl fun b5 => And.intro (And.intro ⟨_, (.there (.there (.there .here)))⟩ (And.intro ⟨_, _, _, (.there (.there .here)), rfl⟩ (And.intro ⟨_, _, _, (.there (.there .here)), rfl⟩ trivial))) ?_))
      refine god hT 2 rfl ?_
      conv => whnf
      refine vd_eff1 rfl (eff rfl rfl (s_store (cs' := opV o) hT rfl rfl rfl (.there .here) rfl (And.intro (And.intro ⟨_, (.there (.there (.there .here)))⟩ (And.intro ⟨_, _, _, (.there (.there .here)), rfl⟩ trivial)) ?_)))
      refine god hT 2 rfl ?_
      conv => whnf
      refine vd_eff1 rfl (eff rfl rfl (s_store (cs' := pairV l) hT rfl rfl rfl .here rfl (And.intro trivial ?_)))
      refine god hT 2 rfl ?_
      conv => whnf
      refine vd_fin rfl ?_
      refine next_freeze (t := 4) rfl (.there .here) ?_
      refine go hT 10000 rfl ?_
      conv => whnf
      exact ⟨b5, trivial, ⟨⟨_, rfl, .refl _⟩, ⟨_, rfl, .refl _⟩, ⟨_, rfl, .refl _⟩, ⟨_, rfl, .refl _⟩, trivial⟩, .keep (.drop (.refl _))⟩
    · refine god hT 2 rfl ?_
      conv => whnf
      refine vd_eff1 rfl (eff rfl rfl (s_alloc hT rfl rfl rfl fun b4 => And.intro (And.intro ⟨_, (.there (.there (.there .here)))⟩ (And.intro ⟨_, _, _, (.there (.there .here)), rfl⟩ (And.intro ⟨_, _, _, (.there (.there .here)), rfl⟩ trivial))) ?_))
      refine god hT 2 rfl ?_
      conv => whnf
      refine vd_eff1 rfl (eff rfl rfl (s_store (cs' := opV o) hT rfl rfl rfl .here rfl (And.intro (And.intro ⟨_, (.there (.there (.there .here)))⟩ (And.intro ⟨_, _, _, (.there (.there .here)), rfl⟩ trivial)) ?_)))
      refine god hT 2 rfl ?_
      conv => whnf
      refine vd_eff1 rfl (eff rfl rfl (s_store (cs' := pairV l) hT rfl rfl rfl (.there .here) rfl (And.intro trivial ?_)))
      refine god hT 2 rfl ?_
      conv => whnf
      refine vd_fin rfl ?_
      refine next_freeze (t := 4) rfl .here ?_
      refine go hT 10000 rfl ?_
      conv => whnf
      exact ⟨b5, trivial, ⟨⟨_, rfl, .refl _⟩, ⟨_, rfl, .refl _⟩, ⟨_, rfl, .refl _⟩, ⟨_, rfl, .refl _⟩, trivial⟩, .drop (.refl _)⟩
  · intro b5 _
    refine go hT 10000 rfl ?_
    conv => whnf
    refine ops_s rfl (s_alloc hT rfl rfl rfl fun b6 => ?_)
    refine go hT 10000 rfl ?_
    conv => whnf
    refine ops_s rfl (s_store (cs' := pairV (p.1, o.next)) hT rfl rfl rfl .here rfl ?_)
    refine ops_freezeH (t := 6) rfl ?_
    refine go hT 10000 rfl ?_
    conv => whnf
    refine run_split rfl (fun h23 => ?_) (fun h23 => ?_)
    · have h23 := of_decide_eq_true h23
      refine go hT 10000 rfl ?_
      conv => whnf
      intro id
      refine run_drw hT rfl rfl ?_ id
      refine god hT 2 rfl ?_
      conv => whnf
      refine q_load hT rfl rfl rfl (.there .here) rfl ?_
      refine god hT 2 rfl ?_
      conv => whnf
      refine q_c (v := .slice tk (ps.map pairV)) (fun S' => ∃ f', At S' (.map bc (x.callers.map callE)) f') rfl ⟨_, .there (.there (.there .here))⟩ (fun S' ⟨_, hat⟩ => hres3 ▸ (g_lookup (z := .slice .zero []) hT rfl rfl rfl rfl rfl rfl hat hr3).qs) ?_
      repeat' (first
        | (refine god hT 2 rfl ?_; conv => whnf)
        | refine vd_fin rfl ?_
        | refine q_g rfl (fun S' => (g_len hT rfl rfl rfl rfl rfl rfl (List.length_map _)).qs) ?_
        | refine q_guard rfl rfl rfl rfl (fun h => ?_) (fun h => ?_))
      refine go hT 10000 rfl ?_
      conv => whnf
      have step : ∀ (u : Fp) (i : Nat) (h : i < ps.length), (ps.drop i).foldl (fun x b => comeP x b l) u = (ps.drop (i + 1)).foldl (fun x b => comeP x b l) (comeP u ps[i] l) := fun u i h => by
        rw [List.drop_eq_getElem_cons h]; rfl
      refine run_lq (fun w : Nat × Fd => ([(0, .ptr bx 0), (5, .ptr b5 0), (44, .slice tk (ps.map pairV)), (45, .int .i64 ps.length), (46, .int .i64 w.1)], .cells b5 (pairV l) 258 :: fdS m bx ba bc w.2)) (fun w => FdOk (n + w.1) w.2 ∧ w.1 ≤ ps.length ∧ (ps.drop w.1).foldl (fun x b => comeP x b l) w.2.pure = leaveP m x.pure p) (fun w => ps.length - w.1) (0, x) ⟨hx, Nat.zero_le _, by simp only [leaveP, ho, hlv, h23, hps, if_true]; rfl⟩ ⟨⟨⟨_, rfl, .refl _⟩, ⟨_, rfl, .refl _⟩, ⟨_, rfl, .refl _⟩, ⟨_, rfl, .refl _⟩, ⟨_, rfl, .refl _⟩, trivial⟩, .refl _⟩ ?_
      rintro ⟨i, y⟩ ⟨hy, hi, ey⟩
      dsimp only at hy hi ey
      refine go hT 10000 rfl ?_
      conv => whnf
      refine run_split rfl (fun hlt => ?_) (fun hlt => ?_)
      · simp only [decide_eq_true_eq, Int.ofNat_lt] at hlt
        rw [step _ _ hlt] at ey
        refine go hT 10000 rfl ?_
        conv => whnf
        refine ops_g rfl (g_indexM hT rfl rfl rfl rfl rfl hlt rfl) ?_
        refine go hT 10000 rfl ?_
        conv => whnf
        refine ops_s rfl (s_alloc hT rfl rfl rfl fun b8 => ?_)
        refine go hT 10000 rfl ?_
        conv => whnf
        refine ops_s rfl (s_store (cs' := pairV ps[i]) hT rfl rfl rfl .here rfl ?_)
        refine ops_freezeH (t := 8) rfl ?_
        refine go hT 10000 rfl ?_
        conv => whnf
        refine ops_g rfl (g_load hT rfl rfl .here rfl) ?_
        refine go hT 10000 rfl ?_
        conv => whnf
        refine ops_s rfl (s_call hT rfl rfl rfl rfl rfl rfl (VC.frame1 (come hT m bx ba bc y hy (by omega) ps[i] l) _ ?_))
        rintro v _ ⟨z, hz, ez, rfl⟩
        refine go hT 10000 rfl ?_
        conv => whnf
        refine ops_g rfl (g_add rfl rfl rfl (by dsimp only; omega)) ?_
        refine go hT 10000 rfl ?_
        conv => whnf
        exact ⟨(i + 1, z), ⟨hz.mono (by dsimp only; omega), by dsimp only; omega, by dsimp only; rw [ez]; exact ey⟩, by dsimp only; omega, ⟨⟨_, rfl, .refl _⟩, ⟨_, rfl, .refl _⟩, ⟨_, rfl, .refl _⟩, ⟨_, rfl, .refl _⟩, ⟨_, rfl, .refl _⟩, trivial⟩, .refl _⟩
      · simp only [decide_eq_false_iff_not, Int.ofNat_lt] at hlt
        have hie : i = ps.length := by omega
        subst hie
        rw [List.drop_length] at ey
        refine run_sub (.drop (.refl _)) ?_
        refine go hT 10000 rfl ?_
        conv => whnf
        exact ret_of .nil ⟨y, hy.mono (by omega), ey, rfl⟩
    have h23 := of_decide_eq_false h23
    refine go hT 10000 rfl ?_
    conv => whnf
    refine run_split rfl (fun h22 => ?_) (fun h22 => ?_)
    · have h22 := of_decide_eq_true h22
      have hc := (MModule.fn_ok hm (hcall h22)).code.2
      refine go hT 10000 rfl ?_
      conv => whnf
      refine ops_g rfl (g_load hT rfl rfl .here rfl) ?_
      refine go hT 10000 rfl ?_
      conv => whnf
      refine ops_s rfl (s_call hT rfl rfl rfl rfl rfl rfl (VC.frame1 (call hT m bx ba bc x hx p l o (hcall h22) hc (by omega)) _ ?_))
      rintro v _ ⟨z, hz, ez, rfl⟩
      refine ops_sub (.drop (.refl _)) ?_
      refine go hT 10000 rfl ?_
      conv => whnf
      refine ret_of .nil ⟨z, hz.mono (by omega), ?_, rfl⟩
      rw [ez]
      simp only [leaveP, ho, hlv, h23, h22, Int.reduceEq, if_true, if_false]
    have h22 := of_decide_eq_false h22
    refine go hT 10000 rfl ?_
    conv => whnf
    refine run_split rfl (fun h16 => ?_) (fun h16 => ?_)
    · have h16 := of_decide_eq_true h16
      have h21 : ¬ o.kind = 21 := by omega
      refine go hT 10000 rfl ?_
      conv => whnf
      refine ops_g rfl (g_load hT rfl rfl .here rfl) ?_
      refine go hT 10000 rfl ?_
      conv => whnf
      refine ops_g rfl (g_shl1 rfl rfl rfl) ?_
      refine go hT 10000 rfl ?_
      conv => whnf
      refine ops_g rfl (g_load hT rfl rfl .here rfl) ?_
      refine go hT 10000 rfl ?_
      conv => whnf
      refine ops_g rfl (g_shl1 rfl rfl rfl) ?_
      refine go hT 10000 rfl ?_
      conv => whnf
      refine ops_s rfl (s_store (cs' := pairV (orI l.1 (bitI o.a), orI l.2 (bitI o.a))) hT rfl rfl rfl .here rfl ?_)
      refine go hT 10000 rfl ?_
      conv => whnf
      refine ops_g rfl (g_load hT rfl rfl .here rfl) ?_
      refine go hT 10000 rfl ?_
      conv => whnf
      refine ops_s rfl (s_call hT rfl rfl rfl rfl rfl rfl (VC.frame1 (come hT m bx ba bc x hx (by omega) (p.1, o.next) (orI l.1 (bitI o.a), orI l.2 (bitI o.a))) _ ?_))
      rintro v _ ⟨z, hz, ez, rfl⟩
      refine ops_sub (.drop (.refl _)) ?_
      refine go hT 10000 rfl ?_
      conv => whnf
      refine ret_of .nil ⟨z, hz.mono (by omega), ?_, rfl⟩
      rw [ez]
      simp only [leaveP, ho, hlv, leaveL, h23, h22, h16, h21, Int.reduceEq, if_true, if_false]
    have h16 := of_decide_eq_false h16
    refine go hT 10000 rfl ?_
    conv => whnf
    refine run_split rfl (fun h17 => ?_) (fun h17 => ?_)
    · have h17 := of_decide_eq_true h17
      have h21 : ¬ o.kind = 21 := by omega
      refine go hT 10000 rfl ?_
      conv => whnf
      refine ops_g rfl (g_load hT rfl rfl .here rfl) ?_
      refine go hT 10000 rfl ?_
      conv => whnf
      refine ops_g rfl (g_shl1 rfl rfl rfl) ?_
      refine go hT 10000 rfl ?_
      conv => whnf
      refine ops_g rfl (g_load hT rfl rfl .here rfl) ?_
      refine go hT 10000 rfl ?_
      conv => whnf
      refine ops_g rfl (g_shl1 rfl rfl rfl) ?_
      refine go hT 10000 rfl ?_
      conv => whnf
      refine ops_s rfl (s_store (cs' := pairV (andNotI l.1 (bitI o.a), andNotI l.2 (bitI o.a))) hT rfl rfl rfl .here rfl ?_)
      refine go hT 10000 rfl ?_
      conv => whnf
      refine ops_g rfl (g_load hT rfl rfl .here rfl) ?_
      refine go hT 10000 rfl ?_
      conv => whnf
      refine ops_s rfl (s_call hT rfl rfl rfl rfl rfl rfl (VC.frame1 (come hT m bx ba bc x hx (by omega) (p.1, o.next) (andNotI l.1 (bitI o.a), andNotI l.2 (bitI o.a))) _ ?_))
      rintro v _ ⟨z, hz, ez, rfl⟩
      refine ops_sub (.drop (.refl _)) ?_
      refine go hT 10000 rfl ?_
      conv => whnf
      refine ret_of .nil ⟨z, hz.mono (by omega), ?_, rfl⟩
      rw [ez]
      simp only [leaveP, ho, hlv, leaveL, h23, h22, h16, h17, h21, Int.reduceEq, if_true, if_false]
    have h17 := of_decide_eq_false h17
    refine go hT 10000 rfl ?_
    conv => whnf
    refine run_split rfl (fun h21 => ?_) (fun h21 => ?_)
    · have h21 := of_decide_eq_true h21
      refine go hT 10000 rfl ?_
      conv => whnf
      refine ops_g rfl (g_load hT rfl rfl .here rfl) ?_
      refine go hT 10000 rfl ?_
      conv => whnf
      refine ops_s rfl (s_call hT rfl rfl rfl rfl rfl rfl (VC.frame1 (come hT m bx ba bc x hx (by omega) (p.1, o.els) l) _ ?_))
      rintro v _ ⟨y, hy, ey, rfl⟩
      refine go hT 10000 rfl ?_
      conv => whnf
      refine ops_g rfl (g_load hT rfl rfl .here rfl) ?_
      refine go hT 10000 rfl ?_
      conv => whnf
      refine ops_s rfl (s_call hT rfl rfl rfl rfl rfl rfl (VC.frame1 (come hT m bx ba bc y hy (by omega) (p.1, o.next) l) _ ?_))
      rintro v _ ⟨z, hz, ez, rfl⟩
      refine ops_sub (.drop (.refl _)) ?_
      refine go hT 10000 rfl ?_
      conv => whnf
      refine ret_of .nil ⟨z, hz.mono (by omega), ?_, rfl⟩
      rw [ez]
      rw [ey]
      simp only [leaveP, ho, hlv, leaveL, h23, h22, h16, h17, h21, Int.reduceEq, if_true, if_false]
    have h21 := of_decide_eq_false h21
    refine go hT 10000 rfl ?_
    conv => whnf
    refine ops_g rfl (g_load hT rfl rfl .here rfl) ?_
    refine go hT 10000 rfl ?_
    conv => whnf
    refine ops_s rfl (s_call hT rfl rfl rfl rfl rfl rfl (VC.frame1 (come hT m bx ba bc x hx (by omega) (p.1, o.next) l) _ ?_))
    rintro v _ ⟨z, hz, ez, rfl⟩
    refine ops_sub (.drop (.refl _)) ?_
    refine go hT 10000 rfl ?_
    conv => whnf
    refine ret_of .nil ⟨z, hz.mono (by omega), ?_, rfl⟩
    rw [ez]
    simp only [leaveP, ho, hlv, leaveL, h23, h22, h16, h17, h21, Int.reduceEq, if_true, if_false]
end
end Go.Vw
namespace Go.Vw
open Go.RowKit Go.Am Go.Proofs
attribute [local irreducible] VOps VRun VNext VD VDn VDq Ret
def seenE (i : Int) : V × V := (.int .i64 i, .bool true)
theorem look71 (f : Int) : ∀ s : List Int, LookV tab 3 (.int .i64 f) (s.map seenE) (if f ∈ s then some (.bool true) else none)
  | [] => by rw [if_neg (by simp)]; exact .nil
  | x :: s => by
    by_cases h : f = x
    · rw [if_pos (by simp [h])]
      exact .hit (by rw [key3, decide_eq_true h])
    · have := look71 f s
      by_cases hm : f ∈ s
      · rw [if_pos hm] at this
        rw [if_pos (List.mem_cons_of_mem _ hm)]
        exact .miss (by rw [key3, decide_eq_false h]) this
      · rw [if_neg hm] at this
        rw [if_neg (by simp [h, hm])]
        exact .miss (by rw [key3, decide_eq_false h]) this
theorem put71 (f : Int) : ∀ s : List Int, f ∉ s → PutV tab 3 (.int .i64 f) (.bool true) (s.map seenE) ((s ++ [f]).map seenE)
  | [], _ => .nil
  | x :: s, h => by
    simp only [List.mem_cons, not_or] at h
    exact .miss (by rw [key3, decide_eq_false h.1]) (put71 f s h.2)
def calledP (m : MModule) : Nat → Int → List Int → List Int
  | 0, _, s => s
  | k + 1, f, s => if f ∈ s then s else (m.fn f).code.foldl (fun s o => if o.kind = 22 then calledP m k o.a s else s) (s ++ [f])
def unseen (m : MModule) (s : List Int) : Nat := (List.range m.funcs.length).countP fun (i : Nat) => !(s.contains (i : Int))
theorem countP_lt {α : Type} {p q : α → Bool} : ∀ {l : List α}, (∀ x, p x = true → q x = true) → (∃ x ∈ l, q x = true ∧ p x = false) → l.countP p < l.countP q
  | [], _, ⟨x, h, _⟩ => by cases h
  | y :: l, hpq, ⟨x, hx, h1, h2⟩ => by
    have mono : l.countP p ≤ l.countP q := List.countP_mono_left fun x _ h => hpq x h
    rw [List.countP_cons, List.countP_cons]
    rcases List.mem_cons.1 hx with rfl | hx
    · rw [if_pos h1, if_neg (by rw [h2]; decide)]; omega
    · have ih := countP_lt hpq ⟨x, hx, h1, h2⟩
      by_cases hp : p y = true
      · rw [if_pos hp, if_pos (hpq y hp)]; omega
      · rw [if_neg hp]; split <;> omega
theorem unseen_mono {m : MModule} {s t : List Int} (h : ∀ x ∈ s, x ∈ t) : unseen m t ≤ unseen m s := List.countP_mono_left fun i _ hi => by
  simp only [Bool.not_eq_true', List.contains_eq_mem, decide_eq_false_iff_not] at hi ⊢
  exact fun hm => hi (h _ hm)
theorem unseen_add {m : MModule} {s : List Int} {f : Int} (hf : belowB m.funcs.length [f] = true) (h : f ∉ s) : unseen m (s ++ [f]) < unseen m s := by
  have hb := belowB_one.1 hf
  refine countP_lt (fun i hi => ?_) ⟨f.toNat, List.mem_range.2 (by omega), ?_, ?_⟩
  · simp only [Bool.not_eq_true', List.contains_eq_mem, decide_eq_false_iff_not, List.mem_append, not_or] at hi ⊢
    exact hi.1
  · rw [Int.toNat_of_nonneg hb.1]
    simp [h]
  · rw [Int.toNat_of_nonneg hb.1]
    simp
theorem called_sub (m : MModule) : ∀ (k : Nat) (f : Int) (s : List Int), ∀ x ∈ s, x ∈ calledP m k f s
  | 0, _, _, _, h => h
  | k + 1, f, s, x, h => by
    unfold calledP
    split
    · exact h
    · have key : ∀ (c : List MOp) (s : List Int), x ∈ s → x ∈ c.foldl (fun s o => if o.kind = 22 then calledP m k o.a s else s) s := fun c => by
        induction c with
        | nil => intro s h; exact h
        | cons o c ih =>
          intro s h
          refine ih _ ?_
          dsimp only
          split
          · exact called_sub m k o.a s x h
          · exact h
      exact key _ _ (List.mem_append_left _ h)
section
variable [Drw] (hT : TabOk tab Tryz.prog)
include hT
theorem called (m : MModule) (hm : ∀ f ∈ m.funcs, OkF f) (hcall : ∀ f ∈ m.funcs, ∀ o ∈ f.code, o.kind = 22 → belowB m.funcs.length [o.a] = true) (bs : Nat) : ∀ (k : Nat) (f : Int) (s : List Int), belowB m.funcs.length [f] = true → unseen m s < k →
    VC Tryz.prog 146 [.agg (modV m), .int .i64 f, .map bs] [.map bs (s.map seenE)] fun _ S' => S' = [.map bs ((calledP m k f s).map seenE)]
  | 0, f, s, _, hk => by omega
  | k + 1, f, s, hf, hk => by
    have hl := look71 f s
    refine VC.code hT 33 rfl rfl rfl rfl fun F W S0 => ?_
    refine go hT 10000 rfl ?_
    conv => whnf
    refine ops_s rfl (s_boxF rfl rfl rfl ?_)
    refine go hT 10000 rfl ?_
    conv => whnf
    by_cases hs : f ∈ s
    · rw [if_pos hs] at hl
      refine ops_g rfl (g_lookup hT rfl rfl rfl rfl rfl rfl .here hl) ?_
      refine go hT 10000 rfl ?_
      conv => whnf
      refine ret_of .nil ?_
      unfold calledP
      rw [if_pos hs]
    · rw [if_neg hs] at hl
      have hmem : m.fn f ∈ m.funcs := by
        have hb := belowB_one.1 hf
        have hi : f.toNat < m.funcs.length := by omega
        unfold MModule.fn
        rw [List.getElem?_eq_getElem hi]
        exact List.getElem_mem hi
      have hcode := (hm _ hmem).code.2
      refine ops_g rfl (g_lookup hT rfl rfl rfl rfl rfl rfl .here hl) ?_
      refine go hT 10000 rfl ?_
      conv => whnf
      refine ops_s rfl (s_mapUpdate hT (.inl rfl) rfl rfl rfl rfl rfl .here (put71 f s hs) ?_)
      refine go hT 10000 rfl ?_
      conv => whnf
      refine ops_g rfl (g_funcs hT rfl rfl rfl hf) ?_
      refine go hT 10000 rfl ?_
      conv => whnf
      refine ops_g rfl (g_len hT rfl rfl rfl rfl rfl rfl (List.length_map _)) ?_
      refine go hT 10000 rfl ?_
      conv => whnf
      have hlt0 := unseen_add hf hs
      refine run_lq (fun w : Nat × List Int => ([(2, .map bs), (3, .pin (modV m) 0), (18, .slice .no ((m.fn f).code.map opV)), (19, .int .i64 (m.fn f).code.length), (20, .int .i64 w.1)], [.map bs (w.2.map seenE)])) (fun w => (∀ x ∈ s ++ [f], x ∈ w.2) ∧ w.1 ≤ (m.fn f).code.length ∧ ((m.fn f).code.drop w.1).foldl (fun s o => if o.kind = 22 then calledP m k o.a s else s) w.2 = calledP m (k + 1) f s) (fun w => (m.fn f).code.length - w.1) (0, s ++ [f]) ⟨fun x h => h, Nat.zero_le _, by rw [calledP, if_neg hs]; rfl⟩ ⟨⟨⟨_, rfl, .refl _⟩, ⟨_, rfl, .refl _⟩, ⟨_, rfl, .refl _⟩, ⟨_, rfl, .refl _⟩, ⟨_, rfl, .refl _⟩, trivial⟩, .refl _⟩ ?_
      rintro ⟨i, s'⟩ ⟨hsub, hi, ey⟩
      dsimp only at hsub hi ey
      refine go hT 10000 rfl ?_
      conv => whnf
      refine run_split rfl (fun hlt => ?_) (fun hlt => ?_)
      · simp only [decide_eq_true_eq, Int.ofNat_lt] at hlt
        have hin := List.getElem_mem hlt
        rw [List.drop_eq_getElem_cons hlt, List.foldl_cons] at ey
        refine go hT 10000 rfl ?_
        conv => whnf
        refine ops_g rfl (g_indexM hT rfl rfl rfl rfl rfl hlt rfl) ?_
        refine go hT 10000 rfl ?_
        conv => whnf
        refine ops_s rfl (s_alloc hT rfl rfl rfl fun b7 => ?_)
        refine go hT 10000 rfl ?_
        conv => whnf
        refine ops_s rfl (s_store (cs' := opV (m.fn f).code[i]) hT rfl rfl rfl .here rfl ?_)
        refine ops_freezeH (t := 7) rfl ?_
        refine go hT 10000 rfl ?_
        conv => whnf
        refine run_split rfl (fun hk22 => ?_) (fun hk22 => ?_)
        · have hk22 := of_decide_eq_true hk22
          rw [if_pos hk22] at ey
          refine go hT 10000 rfl ?_
          conv => whnf
          refine ops_s rfl (s_call hT rfl rfl rfl rfl rfl rfl ((called m hm hcall bs k _ s' (hcall _ hmem _ hin hk22) (by have := unseen_mono (m := m) hsub; omega)).mono ?_))
          rintro v _ rfl
          refine go hT 10000 rfl ?_
          conv => whnf
          refine ops_g rfl (g_add rfl rfl rfl (by dsimp only; omega)) ?_
          refine go hT 10000 rfl ?_
          conv => whnf
          exact ⟨(i + 1, calledP m k (m.fn f).code[i].a s'), ⟨fun x h => called_sub m k _ _ x (hsub x h), by dsimp only; omega, ey⟩, by dsimp only; omega, ⟨⟨_, rfl, .refl _⟩, ⟨_, rfl, .refl _⟩, ⟨_, rfl, .refl _⟩, ⟨_, rfl, .refl _⟩, ⟨_, rfl, .refl _⟩, trivial⟩, .refl _⟩
        · have hk22 := of_decide_eq_false hk22
          rw [if_neg hk22] at ey
          refine go hT 10000 rfl ?_
          conv => whnf
          refine ops_g rfl (g_add rfl rfl rfl (by dsimp only; omega)) ?_
          refine go hT 10000 rfl ?_
          conv => whnf
          exact ⟨(i + 1, s'), ⟨hsub, by dsimp only; omega, ey⟩, by dsimp only; omega, ⟨⟨_, rfl, .refl _⟩, ⟨_, rfl, .refl _⟩, ⟨_, rfl, .refl _⟩, ⟨_, rfl, .refl _⟩, ⟨_, rfl, .refl _⟩, trivial⟩, .refl _⟩
      · simp only [decide_eq_false_iff_not, Int.ofNat_lt] at hlt
        have hie : i = (m.fn f).code.length := by omega
        subst hie
        rw [List.drop_length] at ey
        refine go hT 10000 rfl ?_
        conv => whnf
        refine ret_of .nil ?_
        have ey : s' = calledP m (k + 1) f s := ey
        rw [ey]
end
end Go.Vw
namespace Go.Vw
open Go.RowKit Go.Am Go.Proofs
/-! ### locks as bits -/
theorem bits_ofInt (u : Nat) : BitVec.ofInt IntKind.i64.bits (u : Int) = BitVec.ofNat 64 u := by
  apply BitVec.eq_of_toNat_eq
  simp [IntKind.bits]
theorem wrap_small {w : Nat} (h : w < 256) : IntKind.i64.wrap (w : Int) = w := by rw [IntKind.wrap_i64]; omega
theorem lt_of_bits {u : Nat} (h : ∀ i, u.testBit i = true → i < 8) : u < 256 := by
  refine Nat.lt_pow_two_of_testBit (n := 8) u fun i hi => ?_
  cases hb : u.testBit i
  · rfl
  · have := h i hb; omega
theorem andI_nat {u v : Nat} (hu : u < 256) (hv : v < 256) : andI u v = ((u &&& v : Nat) : Int) := by
  have h1 : u &&& v < 256 := Nat.lt_of_le_of_lt Nat.and_le_left hu
  unfold andI
  rw [bits_ofInt, bits_ofInt]
  have : (BitVec.ofNat 64 u &&& BitVec.ofNat 64 v).toNat = u &&& v := by
    rw [BitVec.toNat_and, BitVec.toNat_ofNat, BitVec.toNat_ofNat, Nat.mod_eq_of_lt (by omega), Nat.mod_eq_of_lt (by omega)]
  show IntKind.i64.wrap ((BitVec.ofNat 64 u &&& BitVec.ofNat 64 v).toNat : Int) = _
  rw [this]; exact wrap_small h1
theorem orI_nat {u v : Nat} (hu : u < 256) (hv : v < 256) : orI u v = ((u ||| v : Nat) : Int) := by
  have h1 : u ||| v < 256 := Nat.or_lt_two_pow (n := 8) hu hv
  unfold orI
  rw [bits_ofInt, bits_ofInt]
  have : (BitVec.ofNat 64 u ||| BitVec.ofNat 64 v).toNat = u ||| v := by
    rw [BitVec.toNat_or, BitVec.toNat_ofNat, BitVec.toNat_ofNat, Nat.mod_eq_of_lt (by omega), Nat.mod_eq_of_lt (by omega)]
  show IntKind.i64.wrap ((BitVec.ofNat 64 u ||| BitVec.ofNat 64 v).toNat : Int) = _
  rw [this]; exact wrap_small h1
theorem andNotI_nat {u v : Nat} (hu : u < 256) (_hv : v < 256) : ∃ w : Nat, andNotI u v = (w : Int) ∧ ∀ i, w.testBit i = (u.testBit i && !v.testBit i) := by
  refine ⟨(BitVec.ofNat 64 u &&& ~~~(BitVec.ofNat 64 v)).toNat, ?_, fun i => ?_⟩
  · unfold andNotI
    rw [bits_ofInt, bits_ofInt]
    refine wrap_small ?_
    show (BitVec.ofNat 64 u &&& ~~~(BitVec.ofNat 64 v) : BitVec 64).toNat < 256
    rw [BitVec.toNat_and, BitVec.toNat_ofNat, Nat.mod_eq_of_lt (by omega : u < 2 ^ 64)]
    exact Nat.lt_of_le_of_lt Nat.and_le_left hu
  · rw [BitVec.testBit_toNat]
    by_cases hi : i < 64
    · rw [BitVec.getLsbD_and, BitVec.getLsbD_not, BitVec.getLsbD_ofNat, BitVec.getLsbD_ofNat]
      simp [hi]
    · have : u.testBit i = false := Nat.testBit_lt_two_pow (Nat.lt_of_lt_of_le hu (by
        have : (2 : Nat) ^ 8 ≤ 2 ^ i := Nat.pow_le_pow_right (by omega) (by omega)
        omega))
      rw [this]
      simp [hi]
theorem bitI_nat {a : Int} (h : 0 ≤ a ∧ a < 8) : bitI a = ((2 ^ a.toNat : Nat) : Int) := by
  have : a = 0 ∨ a = 1 ∨ a = 2 ∨ a = 3 ∨ a = 4 ∨ a = 5 ∨ a = 6 ∨ a = 7 := by omega
  rcases this with rfl | rfl | rfl | rfl | rfl | rfl | rfl | rfl <;> rfl
structure LockOk (L : Nat) (l : P2) : Prop where
  ex : ∃ u v : Nat, l = ((u : Int), (v : Int)) ∧ (∀ i, u.testBit i = true → v.testBit i = true) ∧ ∀ i, v.testBit i = true → i < L
theorem LockOk.meet {L : Nat} (hL : L ≤ 8) {l o : P2} (hl : LockOk L l) (ho : LockOk L o) : LockOk L (andI l.1 o.1, orI l.2 o.2) ∧ ((andI l.1 o.1, orI l.2 o.2) = o ∨ (andI l.1 o.1) + 255 - (orI l.2 o.2) < o.1 + 255 - o.2) ∧ andI l.1 o.1 ≤ o.1 := by
  obtain ⟨u, v, rfl, a1, a2⟩ := hl.ex
  obtain ⟨u', v', rfl, b1, b2⟩ := ho.ex
  have hu : u < 256 := lt_of_bits fun i hi => by have := a2 i (a1 i hi); omega
  have hv : v < 256 := lt_of_bits fun i hi => by have := a2 i hi; omega
  have hu' : u' < 256 := lt_of_bits fun i hi => by have := b2 i (b1 i hi); omega
  have hv' : v' < 256 := lt_of_bits fun i hi => by have := b2 i hi; omega
  dsimp only
  rw [andI_nat hu hu', orI_nat hv hv']
  have h1 : u &&& u' ≤ u' := Nat.and_le_right
  have h2 : v' ≤ v ||| v' := Nat.right_le_or
  refine ⟨⟨_, _, rfl, fun i hi => ?_, fun i hi => ?_⟩, ?_, by omega⟩
  · rw [Nat.testBit_and, Bool.and_eq_true] at hi
    rw [Nat.testBit_or, a1 i hi.1]; rfl
  · rw [Nat.testBit_or, Bool.or_eq_true] at hi
    rcases hi with hi | hi
    · exact a2 i hi
    · exact b2 i hi
  · by_cases he : u &&& u' = u' ∧ v ||| v' = v'
    · exact .inl (by rw [he.1, he.2])
    · refine .inr ?_
      by_cases h3 : u &&& u' = u'
      · have h4 : ¬ v ||| v' = v' := fun h => he ⟨h3, h⟩
        omega
      · omega
theorem LockOk.leave {L : Nat} (hL : L ≤ 8) {l : P2} {o : MOp} (hl : LockOk L l) (ha : o.kind = 16 ∨ o.kind = 17 → 0 ≤ o.a ∧ o.a < L) : LockOk L (leaveL o l) := by
  obtain ⟨u, v, rfl, a1, a2⟩ := hl.ex
  have hu : u < 256 := lt_of_bits fun i hi => by have := a2 i (a1 i hi); omega
  have hv : v < 256 := lt_of_bits fun i hi => by have := a2 i hi; omega
  have hp : ∀ {a : Int}, 0 ≤ a ∧ a < L → (2 ^ a.toNat : Nat) < 256 := fun {a} h => by
    have : (2 : Nat) ^ a.toNat < 2 ^ 8 := Nat.pow_lt_pow_right (by omega) (by omega)
    exact this
  unfold leaveL
  by_cases h16 : o.kind = 16
  · have hb := ha (.inl h16)
    rw [if_pos h16]
    dsimp only
    rw [bitI_nat (by omega), orI_nat hu (hp hb), orI_nat hv (hp hb)]
    refine ⟨_, _, rfl, fun i hi => ?_, fun i hi => ?_⟩
    · rw [Nat.testBit_or, Bool.or_eq_true] at hi ⊢
      exact hi.imp (a1 i) id
    · rw [Nat.testBit_or, Bool.or_eq_true] at hi
      rcases hi with hi | hi
      · exact a2 i hi
      · rw [Nat.testBit_two_pow, decide_eq_true_eq] at hi; omega
  · rw [if_neg h16]
    by_cases h17 : o.kind = 17
    · have hb := ha (.inr h17)
      rw [if_pos h17]
      dsimp only
      rw [bitI_nat (by omega)]
      obtain ⟨w, e1, w1⟩ := andNotI_nat hu (hp hb)
      obtain ⟨z, e2, z1⟩ := andNotI_nat hv (hp hb)
      rw [e1, e2]
      refine ⟨_, _, rfl, fun i hi => ?_, fun i hi => ?_⟩
      · rw [w1, Bool.and_eq_true] at hi
        rw [z1, a1 i hi.1, hi.2]; rfl
      · rw [z1, Bool.and_eq_true] at hi
        exact a2 i hi.1
    · rw [if_neg h17]
      exact ⟨u, v, rfl, a1, a2⟩
end Go.Vw
namespace Go.Vw
open Go.RowKit Go.Am Go.Proofs
/-! ### the worklist comes to an end -/
def valid (m : MModule) (p : P2) : Prop := belowB m.funcs.length [p.1] = true ∧ 0 ≤ p.2 ∧ p.2 < (m.fn p.1).code.length
def places (m : MModule) : List P2 := (List.range m.funcs.length).flatMap fun (f : Nat) => (List.range (m.fn (f : Int)).code.length).map fun (n : Nat) => ((f : Int), (n : Int))
theorem valid_mem {m : MModule} {p : P2} (h : valid m p) : p ∈ places m := by
  obtain ⟨h1, h2, h3⟩ := h
  have hb := belowB_one.1 h1
  refine List.mem_flatMap.2 ⟨p.1.toNat, List.mem_range.2 (by omega), List.mem_map.2 ⟨p.2.toNat, List.mem_range.2 ?_, ?_⟩⟩
  · rw [Int.toNat_of_nonneg hb.1]; omega
  · rw [Int.toNat_of_nonneg hb.1, Int.toNat_of_nonneg h2]
def hgt : Option P2 → Nat
  | none => 512
  | some l => (l.1 + 255 - l.2).toNat
def pot (m : MModule) (A : AtM) : Nat := ((places m).map fun p => hgt (findM A p)).sum
theorem sum_le {α : Type} {f g : α → Nat} : ∀ {l : List α}, (∀ x ∈ l, f x ≤ g x) → (l.map f).sum ≤ (l.map g).sum
  | [], _ => Nat.le_refl _
  | y :: l, h => by
    have := sum_le (l := l) fun x hx => h x (List.mem_cons_of_mem _ hx)
    have := h y (List.mem_cons_self ..)
    simp only [List.map_cons, List.sum_cons]
    omega
theorem sum_lt {α : Type} {f g : α → Nat} : ∀ {l : List α}, (∀ x ∈ l, f x ≤ g x) → (∃ x ∈ l, f x < g x) → (l.map f).sum < (l.map g).sum
  | [], _, ⟨x, h, _⟩ => by cases h
  | y :: l, h, ⟨x, hx, hlt⟩ => by
    have h1 := sum_le (l := l) fun x hx => h x (List.mem_cons_of_mem _ hx)
    have h2 := h y (List.mem_cons_self ..)
    simp only [List.map_cons, List.sum_cons]
    rcases List.mem_cons.1 hx with rfl | hx
    · omega
    · have := sum_lt (l := l) (fun x hx => h x (List.mem_cons_of_mem _ hx)) ⟨x, hx, hlt⟩
      omega
theorem pot_put {m : MModule} {A : AtM} {p l : P2} (hp : valid m p) (h : hgt (some l) < hgt (findM A p)) : pot m (putM A p l) < pot m A := by
  refine sum_lt (fun q _ => ?_) ⟨p, valid_mem hp, ?_⟩
  · rw [find_put]
    split
    · next e => subst e; omega
    · exact Nat.le_refl _
  · rw [find_put, if_pos rfl]; exact h
structure Inv (m : MModule) (L : Nat) (x : Fp) : Prop where
  at_ : ∀ p l, findM x.at_ p = some l → valid m p ∧ LockOk L l
  row : ∀ p ∈ x.row, valid m p
  callers : ∀ c ∈ x.callers, c.2.Nodup ∧ ∀ b ∈ c.2, valid m b
def mu (m : MModule) (x : Fp) : Nat := x.row.length + 2 * pot m x.at_
theorem lock_range {L : Nat} (hL : L ≤ 8) {l : P2} (h : LockOk L l) : 0 ≤ l.1 ∧ 0 ≤ l.2 ∧ l.1 ≤ l.2 ∧ l.2 ≤ 255 := by
  obtain ⟨u, v, rfl, a1, a2⟩ := h.ex
  have hv : v < 256 := lt_of_bits fun i hi => by have := a2 i hi; omega
  have : u &&& v = u := Nat.eq_of_testBit_eq fun i => by
    rw [Nat.testBit_and]
    cases hb : u.testBit i
    · rfl
    · rw [a1 i hb]; rfl
  have h2 : u ≤ v := by rw [← this]; exact Nat.and_le_right
  exact ⟨by omega, by omega, by dsimp only; omega, by dsimp only; omega⟩
theorem inv_come {m : MModule} {L : Nat} (hL : L ≤ 8) {x : Fp} (hx : Inv m L x) {p l : P2} (hp : valid m p) (hl : LockOk L l) : Inv m L (comeP x p l) ∧ mu m (comeP x p l) ≤ mu m x := by
  unfold comeP
  by_cases hc : findM x.at_ p = some (meet x.at_ p l)
  · rw [if_pos hc]; exact ⟨hx, Nat.le_refl _⟩
  · rw [if_neg hc]
    have hm : LockOk L (meet x.at_ p l) ∧ hgt (some (meet x.at_ p l)) < hgt (findM x.at_ p) := by
      cases hf : findM x.at_ p with
      | none =>
        have e : meet x.at_ p l = l := by unfold meet; rw [hf]
        rw [e]
        have := lock_range hL hl
        exact ⟨hl, by show (l.1 + 255 - l.2).toNat < 512; omega⟩
      | some o =>
        have e : meet x.at_ p l = (andI l.1 o.1, orI l.2 o.2) := by unfold meet; rw [hf]
        have ho := (hx.at_ p o hf).2
        obtain ⟨k1, k2, _⟩ := hl.meet hL ho
        rw [e]
        refine ⟨k1, ?_⟩
        have r1 := lock_range hL k1
        rcases k2 with k2 | k2
        · rw [hf, e, k2] at hc; exact absurd rfl hc
        · show (andI l.1 o.1 + 255 - orI l.2 o.2).toNat < (o.1 + 255 - o.2).toNat
          dsimp only at r1
          omega
    refine ⟨⟨fun q k hq => ?_, fun q hq => ?_, hx.callers⟩, ?_⟩
    · dsimp only at hq
      rw [find_put] at hq
      split at hq
      · next e => subst e; cases hq; exact ⟨hp, hm.1⟩
      · exact hx.at_ q k hq
    · rcases List.mem_append.1 hq with hq | hq
      · exact hx.row q hq
      · rw [List.mem_singleton.1 hq]; exact hp
    · have := pot_put (A := x.at_) hp hm.2
      show (x.row ++ [p]).length + 2 * pot m (putM x.at_ p (meet x.at_ p l)) ≤ x.row.length + 2 * pot m x.at_
      rw [List.length_append, List.length_singleton]
      omega
theorem findP_mem : ∀ {C : List (Int × List P2)} {a : Int} {ps : List P2}, findP C a = some ps → ∃ a', (a', ps) ∈ C
  | [], _, _, h => by cases h
  | x :: r, a, c, h => by
    unfold findP at h
    by_cases hc : a = x.1
    · rw [if_pos hc] at h
      exact ⟨x.1, by rw [← Option.some.inj h]; exact List.mem_cons_self ..⟩
    · rw [if_neg hc] at h
      obtain ⟨a', h'⟩ := findP_mem h
      exact ⟨a', List.mem_cons_of_mem _ h'⟩
theorem mem_addP {a : Int} {b : P2} : ∀ {C : List (Int × List P2)} {c : Int × List P2}, c ∈ addP C a b → c ∈ C ∨ c.2 = (findP C a).getD [] ++ [b]
  | [], c, h => by
    rcases List.mem_cons.1 h with rfl | h
    · exact .inr rfl
    · cases h
  | x :: r, c, h => by
    unfold addP at h
    unfold findP
    by_cases ha : a = x.1
    · rw [if_pos ha] at h ⊢
      rcases List.mem_cons.1 h with rfl | h
      · exact .inr rfl
      · exact .inl (List.mem_cons_of_mem _ h)
    · rw [if_neg ha] at h ⊢
      rcases List.mem_cons.1 h with rfl | h
      · exact .inl (List.mem_cons_self ..)
      · exact (mem_addP h).imp (List.mem_cons_of_mem _) id
theorem inv_back {m : MModule} {L : Nat} {x : Fp} (hx : Inv m L x) {a : Int} {b : P2} (hb : valid m b) : Inv m L (addBack x a b) ∧ mu m (addBack x a b) = mu m x := by
  unfold addBack
  split
  · exact ⟨hx, rfl⟩
  · next hnot =>
    refine ⟨⟨hx.at_, hx.row, fun c hc => ?_⟩, rfl⟩
    rcases mem_addP hc with hc | hc
    · exact hx.callers c hc
    · have hb0 : b ∉ (findP x.callers a).getD [] := fun hm => hnot (by
        rw [List.any_eq_true]
        exact ⟨b, hm, decide_eq_true rfl⟩)
      have old : ((findP x.callers a).getD []).Nodup ∧ ∀ c ∈ (findP x.callers a).getD [], valid m c := by
        cases hf : findP x.callers a with
        | none => exact ⟨List.nodup_nil, fun c hc => by cases hc⟩
        | some qs =>
          obtain ⟨a', hm⟩ := findP_mem hf
          exact hx.callers _ hm
      rw [hc]
      refine ⟨?_, fun c hc => ?_⟩
      · rw [List.nodup_append]
        exact ⟨old.1, by simp, fun u hu v hv e => by rw [List.mem_singleton.1 hv] at e; subst e; exact hb0 hu⟩
      · rcases List.mem_append.1 hc with hc | hc
        · exact old.2 c hc
        · rw [List.mem_singleton.1 hc]; exact hb
theorem inv_ret {m : MModule} {L : Nat} (hL : L ≤ 8) {a : Int} {b : P2} (hb : valid m b) : ∀ (c : List MOp) (i : Nat) {x : Fp}, Inv m L x → Inv m L (retLoop x a b i c) ∧ mu m (retLoop x a b i c) ≤ mu m x
  | [], _, x, hx => ⟨hx, Nat.le_refl _⟩
  | o :: c, i, x, hx => by
    unfold retLoop
    cases hf : findM x.at_ (a, (i : Int)) with
    | none => exact inv_ret hL hb c (i + 1) hx
    | some e =>
      dsimp only
      split
      · obtain ⟨h1, h2⟩ := inv_come hL hx hb (hx.at_ _ _ hf).2
        obtain ⟨h3, h4⟩ := inv_ret hL hb c (i + 1) h1
        exact ⟨h3, Nat.le_trans h4 h2⟩
      · exact inv_ret hL hb c (i + 1) hx
theorem inv_fold {m : MModule} {L : Nat} (hL : L ≤ 8) {l : P2} (hl : LockOk L l) : ∀ (ps : List P2) {x : Fp}, (∀ b ∈ ps, valid m b) → Inv m L x → Inv m L (ps.foldl (fun x b => comeP x b l) x) ∧ mu m (ps.foldl (fun x b => comeP x b l) x) ≤ mu m x
  | [], x, _, hx => ⟨hx, Nat.le_refl _⟩
  | b :: ps, x, hps, hx => by
    obtain ⟨h1, h2⟩ := inv_come hL hx (hps b (List.mem_cons_self ..)) hl
    obtain ⟨h3, h4⟩ := inv_fold hL hl ps (fun c hc => hps c (List.mem_cons_of_mem _ hc)) h1
    exact ⟨h3, Nat.le_trans h4 h2⟩
/-- What of right code the thread's way asks. -/
structure OpFacts (m : MModule) (L : Nat) (p : P2) (o : MOp) : Prop where
  next : o.kind ≠ 23 → valid m (p.1, o.next)
  els : o.kind = 21 → valid m (p.1, o.els)
  call : o.kind = 22 → belowB m.funcs.length [o.a] = true ∧ valid m (o.a, 0)
  lock : o.kind = 16 ∨ o.kind = 17 → 0 ≤ o.a ∧ o.a < L
theorem inv_leave {m : MModule} {L : Nat} (hL : L ≤ 8) {x : Fp} (hx : Inv m L x) {p : P2} (ho : OpFacts m L p ((m.fn p.1).op p.2)) : Inv m L (leaveP m x p) ∧ mu m (leaveP m x p) ≤ mu m x := by
  have hl : LockOk L ((findM x.at_ p).getD (0, 0)) := by
    cases hf : findM x.at_ p with
    | none => exact ⟨0, 0, rfl, fun i h => h, fun i h => by simp at h⟩
    | some l => exact (hx.at_ p l hf).2
  unfold leaveP
  generalize (m.fn p.1).op p.2 = o at ho
  dsimp only
  by_cases h23 : o.kind = 23
  · rw [if_pos h23]
    refine inv_fold hL hl _ (fun b hb => ?_) hx
    cases hf : findP x.callers p.1 with
    | none => rw [hf] at hb; cases hb
    | some ps =>
      rw [hf] at hb
      obtain ⟨a', hm⟩ := findP_mem hf
      exact (hx.callers _ hm).2 b hb
  · rw [if_neg h23]
    have hn := ho.next h23
    by_cases h22 : o.kind = 22
    · rw [if_pos h22]
      unfold callP
      obtain ⟨k1, k2⟩ := inv_back hx (a := o.a) hn
      obtain ⟨k3, k4⟩ := inv_come hL k1 (ho.call h22).2 hl
      obtain ⟨k5, k6⟩ := inv_ret hL (a := o.a) hn (m.fn o.a).code 0 k3
      exact ⟨k5, by omega⟩
    · rw [if_neg h22]
      by_cases h21 : o.kind = 21
      · rw [if_pos h21]
        obtain ⟨k1, k2⟩ := inv_come hL hx (ho.els h21) hl
        obtain ⟨k3, k4⟩ := inv_come hL k1 hn (hl.leave hL ho.lock)
        exact ⟨k3, by omega⟩
      · rw [if_neg h21]
        exact inv_come hL hx hn (hl.leave hL ho.lock)
theorem nodup_len : ∀ {l k : List P2}, l.Nodup → (∀ x ∈ l, x ∈ k) → l.length ≤ k.length
  | [], _, _, _ => Nat.zero_le _
  | x :: l, k, hn, h => by
    rw [List.nodup_cons] at hn
    have hx := h x (List.mem_cons_self ..)
    have := nodup_len (l := l) (k := k.erase x) hn.2 fun y hy => by
      have hne : y ≠ x := fun e => hn.1 (e ▸ hy)
      exact (List.mem_erase_of_ne hne).2 (h y (List.mem_cons_of_mem _ hy))
    rw [List.length_erase_of_mem hx] at this
    have : 0 < k.length := List.length_pos_of_mem hx
    rw [List.length_cons]; omega
theorem callers_len {m : MModule} {L : Nat} {x : Fp} (hx : Inv m L x) : ∀ c ∈ x.callers, c.2.length ≤ (places m).length := fun c hc =>
  nodup_len (hx.callers c hc).1 fun b hb => valid_mem ((hx.callers c hc).2 b hb)
end Go.Vw
namespace Go.Vw
open Go.RowKit Go.Am Go.Proofs
theorem part_at {tb : Tab} {t : TypeId} {cs : List V} {off : Nat} {v : V} (ha : tb.isAgg t = some false) (h : cs[off]? = some v) : partV tb t cs off = some v := by
  unfold partV
  rw [ha]
  have h2 := cutV_get off cs 0
  rw [Nat.add_zero, h] at h2
  cases hc : cutV off cs with
  | nil => rw [hc] at h2; cases h2
  | cons x r => rw [hc] at h2; simp only [List.getElem?_cons_zero, Option.some.injEq] at h2; subst h2; cases tb.size t <;> rfl
theorem lay_at {v : V} : ∀ {off : Nat} {cs : List V}, off < cs.length → layV off [v] cs = some (cs.set off v)
  | _, [], h => by simp at h
  | 0, x :: cs, _ => by simp [layV]
  | n + 1, x :: cs, h => by
    have : n < cs.length := by simpa using h
    simp only [layV, lay_at this, List.set_cons_succ]
theorem store_at {tb : Tab} {t : TypeId} {v : V} {off : Nat} {cs : List V} (hs : tb.size t = some 1) (hv : v.cells = [v]) (hc : v.isCell = true) (h : off < cs.length) : storeV tb t v off cs = some (cs.set off v) := by
  unfold storeV
  rw [hs]
  simp only [hv, List.length_singleton, allCellV, hc, cond_true, Bool.and_self, Nat.beq_refl]
  exact lay_at h
/-- A block of slices that is filled from its beginning. -/
def colV (n f : Nat) (row : Nat → List Int) : List V := (List.range n).map fun g => if g < f then .slice .no ((row g).map intV) else .slice .zero []
theorem colV_len (n f : Nat) (row : Nat → List Int) : (colV n f row).length = n := by simp [colV]
theorem colV_zero (n : Nat) (row : Nat → List Int) : colV n 0 row = repV n [.slice .zero []] := by
  rw [repV_one]
  unfold colV
  refine List.ext_getElem (by simp) fun i h1 h2 => ?_
  simp
theorem colV_at {n f : Nat} (row : Nat → List Int) (h : f < n) : (colV n f row)[f]? = some (.slice .zero []) := by
  unfold colV
  rw [List.getElem?_map, List.getElem?_range h]
  simp
theorem colV_set {n f : Nat} (row : Nat → List Int) (_h : f < n) : (colV n f row).set f (.slice .no ((row f).map intV)) = colV n (f + 1) row := by
  unfold colV
  refine List.ext_getElem (by simp) fun i h1 h2 => ?_
  rw [List.getElem_set]
  simp only [List.getElem_map, List.getElem_range]
  split
  · next e => subst e; rw [if_pos (by omega)]
  · next e =>
    by_cases hi : i < f
    · rw [if_pos hi, if_pos (by omega)]
    · rw [if_neg hi, if_neg (by omega)]
def oneRow (r : List Int) : List V := [.slice .no (r.map intV)]
theorem colV_all {n : Nat} (row : Nat → List Int) : colV n n row = (((List.range n).map row).map oneRow).flatten := by
  have : ∀ l : List Nat, (∀ g ∈ l, g < n) → l.map (fun g => if g < n then V.slice .no ((row g).map intV) else .slice .zero []) = ((l.map row).map oneRow).flatten := fun l => by
    induction l with
    | nil => intro _; rfl
    | cons g l ih =>
      intro h
      rw [List.map_cons, List.map_cons, List.map_cons, List.flatten_cons, ← ih fun x hx => h x (List.mem_cons_of_mem _ hx), if_pos (h g (List.mem_cons_self ..))]
      rfl
  exact this _ fun g hg => List.mem_range.1 hg
theorem colV_set0 {n f : Nat} (row : Nat → List Int) (h : f < n) : (colV n f row).set f (.slice .zero []) = colV n f row := by
  refine List.ext_getElem (by simp) fun i h1 h2 => ?_
  rw [List.getElem_set]
  split
  · next e =>
    subst e
    have := colV_at row h
    rw [List.getElem?_eq_getElem h2] at this
    exact (Option.some.inj this).symm
  · rfl
theorem VsLe.set {v v' : V} (h : v.Le v') : ∀ (l : List V) (f : Nat), VsLe (l.set f v) (l.set f v')
  | [], _ => .nil
  | _x :: l, 0 => .cons h (.refl l)
  | x :: l, f + 1 => .cons (.refl x) (VsLe.set h l f)
theorem colV_fill {n f : Nat} (row : Nat → List Int) (h : f < n) (t : Tok) : VsLe ((colV n f row).set f (.slice t ((row f).map intV))) (colV n (f + 1) row) := by
  rw [← colV_set row h]
  exact VsLe.set (V.Le.slice _ _) _ _
theorem colV_skip {n f : Nat} (row : Nat → List Int) (h : f < n) (he : row f = []) : VsLe (colV n f row) (colV n (f + 1) row) := by
  have := colV_fill row h .zero
  rw [he] at this
  exact (colV_set0 row h) ▸ this
end Go.Vw
namespace Go.Vw
open Go.RowKit Go.Am Go.Proofs
attribute [local irreducible] VOps VRun VNext VD VDn VDq Ret
/-- The worklist done. -/
inductive Done (m : MModule) : Fp → Fp → Prop
  | stop {x : Fp} (h : x.row = []) : Done m x x
  | step {x y : Fp} {p : P2} {r : List P2} (h : x.row = p :: r) (k : Done m (leaveP m { x with row := r } p) y) : Done m x y
theorem Done.unique {m : MModule} {x y z : Fp} (h : Done m x y) (k : Done m x z) : y = z := by
  induction h with
  | stop h =>
    cases k with
    | stop _ => rfl
    | step h' _ => rw [h] at h'; cases h'
  | step h _ ih =>
    cases k with
    | stop h' => rw [h] at h'; cases h'
    | step h' k =>
      rw [h] at h'; cases h'
      exact ih k
def startP (f : Int) : Fp := comeP ⟨[], [], []⟩ (f, 0) (0, 0)
theorem inv_done {m : MModule} {L : Nat} (hL : L ≤ 8) (ho : ∀ p, valid m p → OpFacts m L p ((m.fn p.1).op p.2)) {x y : Fp} (h : Done m x y) : Inv m L x → Inv m L y := by
  induction h with
  | stop _ => exact id
  | @step x y p r h _ ih =>
    intro hx
    have hp := hx.row p (by rw [h]; exact List.mem_cons_self ..)
    refine ih (inv_leave hL (x := { x with row := r }) ⟨hx.at_, fun q hq => hx.row q (by rw [h]; exact List.mem_cons_of_mem _ hq), hx.callers⟩ (ho p hp)).1
def cellP (y : Fp) (sel : P2 → Int) (f n : Nat) : Int := match findM y.at_ ((f : Int), (n : Int)) with | some l => sel l | none => -1
def rowP (m : MModule) (y : Fp) (seen : List Int) (sel : P2 → Int) (f : Nat) : List Int := if (f : Int) ∈ seen then (List.range (m.fn (f : Int)).code.length).map (cellP y sel f) else []
def tableP (m : MModule) (y : Fp) (seen : List Int) (sel : P2 → Int) : List (List Int) := (List.range m.funcs.length).map (rowP m y seen sel)
def seenP (m : MModule) (f : Int) : List Int := calledP m (m.funcs.length + 1) f []
def tabV (t : List (List Int)) : List V := [.slice .no (t.map oneRow)]
def heldV (must may : List (List (List Int))) : List V := [.slice .no (must.map tabV), .slice .no (may.map tabV)]
/-- What Find answers of one thread. -/
def Thread (m : MModule) (f : Int) (must may : List (List Int)) : Prop := ∃ y, Done m (startP f) y ∧ must = tableP m y (seenP m f) (·.1) ∧ may = tableP m y (seenP m f) (·.2)
inductive Threads (m : MModule) : List Int → List (List (List Int)) → List (List (List Int)) → Prop
  | nil : Threads m [] [] []
  | cons {f : Int} {fs : List Int} {a b : List (List Int)} {us vs : List (List (List Int))} (h : Thread m f a b) (k : Threads m fs us vs) : Threads m (f :: fs) (a :: us) (b :: vs)
theorem Threads.snoc {m : MModule} {f : Int} {a b : List (List Int)} (h : Thread m f a b) : ∀ {fs us vs}, Threads m fs us vs → Threads m (fs ++ [f]) (us ++ [a]) (vs ++ [b])
  | _, _, _, .nil => .cons h .nil
  | _, _, _, .cons h1 k => .cons h1 (Threads.snoc h k)
theorem Threads.lens {m : MModule} : ∀ {fs us vs}, Threads m fs us vs → us.length = fs.length ∧ vs.length = fs.length
  | _, _, _, .nil => ⟨rfl, rfl⟩
  | _, _, _, .cons _ k => ⟨by simp [k.lens.1], by simp [k.lens.2]⟩
theorem Sub.dropL : ∀ (S R : Hp), Sub (S ++ R) R
  | [], R => .refl R
  | _ :: S, R => .drop (Sub.dropL S R)
section
variable {P : Program} {σ : Sg} {K : List Kt} {fr : Fr} {S : Hp} {Q : Exit → Fr → Hp → Prop} {ops : Array Oper} {l : List Oper}
theorem ops_perm [Drw] {S' : Hp} (x : List.Perm S S') (h : VT P σ (.ops ops l K fr) S' Q) : VOps P σ ops l K fr S Q := by
  unfold VOps
  intro i hi F w a s k
  have h : VOps P σ ops l K fr S' Q := h
  unfold VOps at h
  exact h i hi F w a ⟨s.sat.perm x, s.fr, s.size, s.defers⟩ (k.perm x)
end
section
variable {P : Program} {σ : Sg} {K : List Kt} {fr : Fr} {S : Hp} {Q : Exit → Fr → Hp → Prop}
theorem next_perm [Drw] {S' : Hp} (x : List.Perm S S') (h : VT P σ (.next K fr) S' Q) : VNext P σ K fr S Q := by
  have h : VNext P σ K fr S' Q := h
  unfold VNext at h ⊢
  exact fun F w a s k => h F w a ⟨s.sat.perm x, s.fr, s.size, s.defers⟩ (k.perm x)
end
theorem calls_ok {m : MModule} (h : rightModB m = true) : ∀ f ∈ m.funcs, ∀ o ∈ f.code, o.kind = 22 → belowB m.funcs.length [o.a] = true := fun f hf o ho hk => by
  simp only [rightModB, Bool.and_eq_true, List.all_eq_true] at h
  have := h.2 f hf o ho
  simp only [rightB, Bool.and_eq_true] at this
  exact call_in this.1.1.1.1 hk
theorem unseen_nil (m : MModule) : unseen m [] < m.funcs.length + 1 := by
  have : unseen m [] ≤ (List.range m.funcs.length).length := List.countP_le_length
  rw [List.length_range] at this
  omega
theorem sum_cast : ∀ l : List Nat, ((l.sum : Nat) : Int) = (l.map fun n : Nat => (n : Int)).sum
  | [] => rfl
  | n :: l => by simp only [List.sum_cons, List.map_cons, ← sum_cast l]; push_cast; rfl
theorem places_len (m : MModule) : ((places m).length : Int) = codeSum m.funcs := by
  unfold places codeSum
  rw [List.length_flatMap, sum_cast]
  congr 1
  refine List.ext_getElem (by simp) fun i h1 h2 => ?_
  simp only [List.getElem_map, List.getElem_range, List.length_map, List.length_range]
  have hi : i < m.funcs.length := by simpa using h2
  have : m.fn (i : Int) = m.funcs[i] := by
    unfold MModule.fn
    rw [Int.toNat_natCast, List.getElem?_eq_getElem hi]; rfl
  rw [this]
theorem frame_facts {m : MModule} (h : frameB m = true) : m.locks.length ≤ 8 ∧ (places m).length ≤ 4096 := by
  have h2 := places_len m
  simp only [frameB, namesB, Bool.and_eq_true, decide_eq_true_eq] at h
  obtain ⟨_, ⟨⟨⟨⟨⟨_, ⟨⟨⟨h3, _⟩, _⟩, _⟩⟩, _⟩, _⟩, _⟩, h4⟩, _⟩ := h
  exact ⟨by omega, by omega⟩
theorem fd_ok {m : MModule} {L : Nat} {y : Fd} (hy : Inv m L y.pure) (hp : (places m).length ≤ 4096) (hmu : mu m y.pure < 5000000) (ht : tokB 2 y.rtok = true) (hc : ∀ c ∈ y.callers, tokB 2 c.2.1 = true) : FdOk 5000000 y := by
  refine ⟨?_, ht, fun c hm => ⟨?_, hc c hm⟩⟩
  · have : y.row.length ≤ mu m y.pure := Nat.le_add_right _ _
    omega
  · have := callers_len hy (c.1, c.2.2) (List.mem_map.2 ⟨c, hm, rfl⟩)
    dsimp only at this
    omega
theorem pot_le (m : MModule) (A : AtM) (h : ∀ p l, findM A p = some l → hgt (some l) ≤ 512) : pot m A ≤ (places m).length * 512 := by
  unfold pot
  have : ∀ l : List P2, (l.map fun p => hgt (findM A p)).sum ≤ l.length * 512 := fun l => by
    induction l with
    | nil => simp
    | cons p l ih =>
      have hp : hgt (findM A p) ≤ 512 := by
        cases hf : findM A p with
        | none => exact Nat.le_refl _
        | some k => exact h p k hf
      simp only [List.map_cons, List.sum_cons, List.length_cons, Nat.add_mul]
      omega
  exact this _
theorem thread_ok {m : MModule} (h : rightModB m = true) {f : Int} (hf : f ∈ m.threads) : belowB m.funcs.length [f] = true := by
  simp only [rightModB, frameB, Bool.and_eq_true, Bool.not_eq_true', List.any_eq_false] at h
  have := h.1.2.2 f hf
  simp only [wrongB, Bool.or_eq_true, not_or, Bool.not_eq_true', Bool.not_eq_true, Bool.not_eq_false] at this
  exact this.1
section
variable [Drw] (hT : TabOk tab Tryz.prog)
include hT
set_option maxHeartbeats 2000000 in
theorem find (m : MModule) (hs : Small m) (ho : rightModB m = true → ∀ p, valid m p → OpFacts m m.locks.length p ((m.fn p.1).op p.2)) :
    VC Tryz.prog 82 [.agg (modV m)] [] fun v _ => if rightModB m = true then ∃ must may, Threads m m.threads must may ∧ v = .tup [.agg (heldV must may), .int .i64 0] else v = .tup [.agg (heldV [] []), .int .i64 70] := by
  refine VC.code hT 145 rfl rfl rfl rfl fun F W S0 => ?_
  refine go hT 10000 rfl ?_
  conv => whnf
  refine ops_s rfl (s_boxF rfl rfl rfl ?_)
  refine go hT 10000 rfl ?_
  conv => whnf
  refine ops_s rfl (s_alloc hT rfl rfl rfl fun b2 => ?_)
  refine go hT 10000 rfl ?_
  conv => whnf
  refine ops_s rfl (s_pure hT rfl rfl rfl rfl rfl rfl (codeRight hT m hs) ?_)
  refine go hT 10000 rfl ?_
  conv => whnf
  refine run_split rfl (fun hr => ?_) (fun hr => ?_)
  · refine go hT 10000 rfl ?_
    conv => whnf
    refine ops_s rfl (s_store (cs' := [.slice .zero [], .slice .zero []]) hT rfl rfl rfl .here rfl ?_)
    refine ops_sub (.cells (vs' := heldV [] []) (.cons (V.Le.slice _ _) (.cons (V.Le.slice _ _) .nil)) .nil) ?_
    refine go hT 10000 rfl ?_
    conv => whnf
    refine ret_of (.cell rfl .here rfl (.tmp rfl .nil)) ?_
    rw [Bool.not_eq_true'] at hr
    rw [if_neg (by rw [hr]; decide)]
    rfl
  have hr := nf hr
  refine go hT 10000 rfl ?_
  conv => whnf
  refine ops_s rfl (s_alloc hT rfl rfl rfl fun b4 => ?_)
  refine go hT 10000 rfl ?_
  conv => whnf
  refine ops_g rfl (g_len hT rfl rfl rfl rfl rfl rfl (List.length_map _)) ?_
  refine go hT 10000 rfl ?_
  conv => whnf
  have hth := hs.threads
  refine run_lq (fun w : Nat × List (List (List Int)) × List (List (List Int)) × Tok × Tok => ([(1, .pin (modV m) 0), (2, .ptr b2 0), (4, .ptr b4 0), (21, .slice .no (m.threads.map intV)), (22, .int .i64 m.threads.length), (23, .int .i64 w.1)], [.cells b4 [.slice w.2.2.2.1 (w.2.1.map tabV), .slice w.2.2.2.2 (w.2.2.1.map tabV)] 81, .cells b2 [.slice .zero [], .slice .zero []] 81, .tl w.2.2.2.1, .tl w.2.2.2.2])) (fun w => w.1 ≤ m.threads.length ∧ Threads m (m.threads.take w.1) w.2.1 w.2.2.1 ∧ tokB 1 w.2.2.2.1 = true ∧ tokB 1 w.2.2.2.2 = true) (fun w => m.threads.length - w.1) (0, [], [], .zero, .zero) ⟨Nat.zero_le _, .nil, rfl, rfl⟩ ⟨⟨⟨_, rfl, .refl _⟩, ⟨_, rfl, .refl _⟩, ⟨_, rfl, .refl _⟩, ⟨_, rfl, .refl _⟩, ⟨_, rfl, .refl _⟩, ⟨_, rfl, .refl _⟩, trivial⟩, .keep (.keep (.zero (.zero .nil)))⟩ ?_
  rintro ⟨i, must, may, tm, ta⟩ ⟨hi, hts, htm, hta⟩
  dsimp only at hi hts htm hta
  refine go hT 10000 rfl ?_
  conv => whnf
  refine run_split rfl (fun hlt => ?_) (fun hlt => ?_)
  · simp only [decide_eq_true_eq, Int.ofNat_lt] at hlt
    have hfirst := thread_ok hr (List.getElem_mem hlt)
    refine go hT 10000 rfl ?_
    conv => whnf
    refine ops_g rfl (g_indexM hT rfl rfl rfl rfl rfl hlt rfl) ?_
    refine go hT 10000 rfl ?_
    conv => whnf
    refine ops_s rfl (s_makeMap rfl fun ba => ?_)
    refine go hT 10000 rfl ?_
    conv => whnf
    refine ops_s rfl (s_makeMap rfl fun bc => ?_)
    refine go hT 10000 rfl ?_
    conv => whnf
    refine ops_s rfl (s_box rfl rfl rfl fun bx => ?_)
    refine ops_sub (.keep (.keep (.keep (.zero (.refl _))))) ?_
    refine ops_perm (S' := fdS m bx ba bc ⟨[], [], [], .zero⟩ ++ [.cells b4 [.slice tm (must.map tabV), .slice ta (may.map tabV)] 81, .cells b2 [.slice .zero [], .slice .zero []] 81, .tl tm, .tl ta]) (.cons _ (.swap _ _ _)) ?_
    generalize hR : [HE.cells b4 [.slice tm (must.map tabV), .slice ta (may.map tabV)] 81, .cells b2 [.slice .zero [], .slice .zero []] 81, .tl tm, .tl ta] = R
    refine go hT 10000 rfl ?_
    conv => whnf
    refine ops_s rfl (s_call hT rfl rfl rfl rfl rfl rfl (((come hT m bx ba bc (n := 1) ⟨[], [], [], .zero⟩ ⟨by decide, rfl, fun c hc => by cases hc⟩ (by decide) (m.threads[i], 0) (0, 0)).frame R).mono ?_))
    rintro v _ ⟨_, rfl, y0, hy0, ey0, rfl⟩
    refine go hT 10000 rfl ?_
    conv => whnf
    have hfr : frameB m = true := by
      simp only [rightModB, Bool.and_eq_true] at hr
      exact hr.1
    obtain ⟨hm, hg⟩ := frame_ok hfr
    obtain ⟨hL, hpl⟩ := frame_facts hfr
    have hv0 : valid m (m.threads[i], 0) := ⟨hfirst, by show (0 : Int) ≤ 0; omega, by have := (MModule.fn_ok hm hfirst).code.1; show (0 : Int) < _; dsimp only; omega⟩
    have inv0 : Inv m m.locks.length y0.pure ∧ mu m y0.pure < 5000000 := by
      have e0 : Inv m m.locks.length ⟨[], [], []⟩ := ⟨fun p l h => (by cases h), fun p h => (by cases h), fun c h => (by cases h)⟩
      obtain ⟨k1, k2⟩ := inv_come hL e0 hv0 (l := (0, 0)) ⟨0, 0, rfl, fun i h => h, fun i h => by simp at h⟩
      rw [ey0]
      refine ⟨k1, Nat.lt_of_le_of_lt k2 ?_⟩
      have := pot_le m [] (fun p l h => by cases h)
      show 0 + 2 * pot m [] < 5000000
      omega
    refine run_lq (fun y : Fd => ([(1, .pin (modV m) 0), (2, .ptr b2 0), (4, .ptr b4 0), (6, .int .i64 m.threads[i]), (7, .ptr bx 0), (21, .slice .no (m.threads.map intV)), (22, .int .i64 m.threads.length), (23, .int .i64 i)], fdS m bx ba bc y ++ R)) (fun y => Inv m m.locks.length y.pure ∧ mu m y.pure < 5000000 ∧ tokB 2 y.rtok = true ∧ (∀ c ∈ y.callers, tokB 2 c.2.1 = true) ∧ ∀ z, Done m y.pure z → Done m (startP m.threads[i]) z) (fun y => mu m y.pure) y0 ⟨inv0.1, inv0.2, hy0.tok, fun c hc => (hy0.callers c hc).2, fun z hz => by rw [ey0] at hz; exact hz⟩ ⟨⟨⟨_, rfl, .refl _⟩, ⟨_, rfl, .refl _⟩, ⟨_, rfl, .refl _⟩, ⟨_, rfl, .refl _⟩, ⟨_, rfl, .refl _⟩, ⟨_, rfl, .refl _⟩, ⟨_, rfl, .refl _⟩, ⟨_, rfl, .refl _⟩, trivial⟩, .refl _⟩ ?_
    rintro y ⟨hinv, hmu, htok, hctok, hdone⟩
    refine go hT 10000 rfl ?_
    conv => whnf
    refine ops_g rfl (g_load hT rfl rfl .here rfl) ?_
    refine go hT 10000 rfl ?_
    conv => whnf
    refine ops_g rfl (g_len hT rfl rfl rfl rfl rfl rfl (List.length_map _)) ?_
    refine go hT 10000 rfl ?_
    conv => whnf
    refine run_split rfl (fun hpos => ?_) (fun hpos => ?_)
    · simp only [decide_eq_true_eq] at hpos
      obtain ⟨p, r, hrow⟩ : ∃ p r, y.row = p :: r := by
        cases hy : y.row with
        | nil => rw [hy] at hpos; simp at hpos
        | cons p r => exact ⟨p, r, rfl⟩
      have hvp := hinv.row p (by show p ∈ y.row; rw [hrow]; exact List.mem_cons_self ..)
      have hof := ho hr p hvp
      refine go hT 10000 rfl ?_
      conv => whnf
      refine ops_g rfl (g_load hT rfl rfl .here rfl) ?_
      refine go hT 10000 rfl ?_
      conv => whnf
      refine ops_g rfl (g_index (r := pairV p) hT rfl rfl rfl rfl rfl (by decide) (by rw [hrow]; rfl) rfl) ?_
      refine go hT 10000 rfl ?_
      conv => whnf
      refine ops_s rfl (s_alloc hT rfl rfl rfl fun b8 => ?_)
      refine go hT 10000 rfl ?_
      conv => whnf
      refine ops_s rfl (s_store (cs' := pairV p) hT rfl rfl rfl .here rfl ?_)
      refine ops_freezeH (t := 8) rfl ?_
      refine go hT 10000 rfl ?_
      conv => whnf
      refine ops_g rfl (g_load hT rfl rfl .here rfl) ?_
      refine go hT 10000 rfl ?_
      conv => whnf
      refine ops_g rfl (g_sliceFrom (i := 1) hT rfl rfl rfl (pairV_len y.row) rfl rfl (by rw [List.length_map, hrow]; simp)) ?_
      refine go hT 10000 rfl ?_
      conv => whnf
      refine ops_s rfl (s_store (cs' := modV m ++ [.map ba, .map bc, .slice y.rtok ((y.row.map pairV).drop 1)]) hT rfl rfl rfl .here rfl ?_)
      refine ops_sub (S' := fdS m bx ba bc { y with row := r } ++ R) (by rw [hrow]; exact .refl _) ?_
      refine go hT 10000 rfl ?_
      conv => whnf
      have hpure : Fd.pure { y with row := r } = { y.pure with row := r } := rfl
      have hmu' : mu m { y.pure with row := r } < mu m y.pure := by
        show r.length + 2 * pot m y.at_ < y.row.length + 2 * pot m y.at_
        rw [hrow, List.length_cons]; omega
      have hinv' : Inv m m.locks.length { y.pure with row := r } := ⟨hinv.at_, fun q hq => hinv.row q (by show q ∈ y.row; rw [hrow]; exact List.mem_cons_of_mem _ hq), hinv.callers⟩
      have hok : FdOk 5000000 { y with row := r } := fd_ok (m := m) (L := m.locks.length) hinv' hpl (by rw [hpure]; omega) htok hctok
      have hcl : ((findC y.callers p.1).map (·.2.length)).getD 0 ≤ 4096 := by
        cases hf : findC y.callers p.1 with
        | none => exact Nat.zero_le _
        | some c =>
          obtain ⟨a', hmem⟩ := findC_mem hf
          exact Nat.le_trans (callers_len hinv (a', c.2) (List.mem_map.2 ⟨_, hmem, rfl⟩)) hpl
      obtain ⟨li, lm⟩ := inv_leave hL hinv' hof
      refine ops_s rfl (s_call hT rfl rfl rfl rfl rfl rfl (((leave hT m bx ba bc { y with row := r } hok p hm hvp.1 hvp.2 (fun h => (hof.call h).1) _ rfl (by dsimp only; omega)).frame R).mono ?_))
      rintro v _ ⟨_, rfl, z, hz, ez, rfl⟩
      refine go hT 10000 rfl ?_
      conv => whnf
      refine ⟨z, ⟨by rw [ez]; exact li, by rw [ez, hpure]; omega, hz.tok, fun c hc => (hz.callers c hc).2, fun u hu => hdone u (.step (p := p) (r := r) hrow (by rw [ez] at hu; exact hu))⟩, by rw [ez, hpure]; omega, ⟨⟨_, rfl, .refl _⟩, ⟨_, rfl, .refl _⟩, ⟨_, rfl, .refl _⟩, ⟨_, rfl, .refl _⟩, ⟨_, rfl, .refl _⟩, ⟨_, rfl, .refl _⟩, ⟨_, rfl, .refl _⟩, ⟨_, rfl, .refl _⟩, trivial⟩, .refl _⟩
    · have hrow : y.row = [] := by
        simp only [decide_eq_false_iff_not] at hpos
        cases hy : y.row with
        | nil => rfl
        | cons p r => rw [hy] at hpos; simp at hpos
      have hdone := hdone _ (.stop hrow)
      refine go hT 10000 rfl ?_
      conv => whnf
      refine ops_s rfl (s_makeMap rfl fun bs => ?_)
      refine go hT 10000 rfl ?_
      conv => whnf
      refine ops_s rfl (s_call hT rfl rfl rfl rfl rfl rfl (((called hT m hm (calls_ok hr) bs (m.funcs.length + 1) m.threads[i] [] hfirst (unseen_nil m)).frame (fdS m bx ba bc y ++ R)).mono ?_))
      rintro v _ ⟨_, rfl, rfl⟩
      have hnf := hs.funcs
      refine go hT 10000 rfl ?_
      conv => whnf
      intro id
      refine run_cutK 0 (fun w : Nat × Nat => ([(1, .pin (modV m) 0), (2, .ptr b2 0), (4, .ptr b4 0), (6, .int .i64 m.threads[i]), (7, .ptr bx 0), (9, .map bs), (10, .ref w.1 0 m.funcs.length m.funcs.length), (11, .ref w.2 0 m.funcs.length m.funcs.length), (21, .slice .no (m.threads.map intV)), (22, .int .i64 m.threads.length), (23, .int .i64 i)], .cells w.1 (repV m.funcs.length [.slice .zero []]) 25 :: .cells w.2 (repV m.funcs.length [.slice .zero []]) 25 :: .map bs ((seenP m m.threads[i]).map seenE) :: (fdS m bx ba bc y ++ R))) (fun _ => True) ?_ ?_
      · refine run_drw hT rfl rfl ?_ id
        repeat' (first
          | (refine god hT 2 rfl ?_; conv => whnf)
          | refine vd_fin rfl ?_
          | refine q_g rfl (fun S' => (g_len hT rfl rfl rfl rfl rfl rfl (List.length_map _)).qs) ?_
          | refine q_guard rfl rfl rfl rfl (fun h => ?_) (fun h => ?_))
        refine vd_eff2 rfl (eff rfl rfl (s_makeSlice hT rfl rfl rfl rfl rfl rfl rfl (Nat.le_refl _) (by omega) fun b10 => And.intro trivial ?_)) (eff rfl rfl (s_makeSlice hT rfl rfl rfl rfl rfl rfl rfl (Nat.le_refl _) (by omega) fun b11 => And.intro trivial ?_))
        · refine god hT 2 rfl ?_
          conv => whnf
          refine vd_eff1 rfl (eff rfl rfl (s_makeSlice hT rfl rfl rfl rfl rfl rfl rfl (Nat.le_refl _) (by omega) fun b11 => And.intro trivial ?_))
          refine god hT 2 rfl ?_
          conv => whnf
          refine vd_fin rfl ?_
          refine next_perm (.swap _ _ _) ?_
          refine go hT 10000 rfl ?_
          conv => whnf
          exact ⟨(b10, b11), trivial, ⟨⟨_, rfl, .refl _⟩, ⟨_, rfl, .refl _⟩, ⟨_, rfl, .refl _⟩, ⟨_, rfl, .refl _⟩, ⟨_, rfl, .refl _⟩, ⟨_, rfl, .refl _⟩, ⟨_, rfl, .refl _⟩, ⟨_, rfl, .refl _⟩, ⟨_, rfl, .refl _⟩, ⟨_, rfl, .refl _⟩, ⟨_, rfl, .refl _⟩, trivial⟩, .refl _⟩
        · refine god hT 2 rfl ?_
          conv => whnf
          refine vd_eff1 rfl (eff rfl rfl (s_makeSlice hT rfl rfl rfl rfl rfl rfl rfl (Nat.le_refl _) (by omega) fun b10 => And.intro trivial ?_))
          refine god hT 2 rfl ?_
          conv => whnf
          refine vd_fin rfl ?_
          refine go hT 10000 rfl ?_
          conv => whnf
          exact ⟨(b10, b11), trivial, ⟨⟨_, rfl, .refl _⟩, ⟨_, rfl, .refl _⟩, ⟨_, rfl, .refl _⟩, ⟨_, rfl, .refl _⟩, ⟨_, rfl, .refl _⟩, ⟨_, rfl, .refl _⟩, ⟨_, rfl, .refl _⟩, ⟨_, rfl, .refl _⟩, ⟨_, rfl, .refl _⟩, ⟨_, rfl, .refl _⟩, ⟨_, rfl, .refl _⟩, trivial⟩, .refl _⟩
      · rintro ⟨b10, b11⟩ _
        refine go hT 10000 rfl ?_
        conv => whnf
        refine ops_g rfl (g_len hT rfl rfl rfl rfl rfl rfl (List.length_map _)) ?_
        refine go hT 10000 rfl ?_
        conv => whnf
        generalize hseen : seenP m m.threads[i] = seen
        have hcol := fun row => colV_zero m.funcs.length row
        refine run_lq (fun f : Nat => ([(1, .pin (modV m) 0), (2, .ptr b2 0), (4, .ptr b4 0), (6, .int .i64 m.threads[i]), (7, .ptr bx 0), (9, .map bs), (10, .ref b10 0 m.funcs.length m.funcs.length), (11, .ref b11 0 m.funcs.length m.funcs.length), (21, .slice .no (m.threads.map intV)), (22, .int .i64 m.threads.length), (23, .int .i64 i), (75, .int .i64 m.funcs.length), (76, .int .i64 f)], .cells b10 (colV m.funcs.length f (rowP m y.pure seen (·.1))) 25 :: .cells b11 (colV m.funcs.length f (rowP m y.pure seen (·.2))) 25 :: .map bs (seen.map seenE) :: (fdS m bx ba bc y ++ R))) (fun f => f ≤ m.funcs.length) (fun f => m.funcs.length - f) 0 (Nat.zero_le _) ⟨⟨⟨_, rfl, .refl _⟩, ⟨_, rfl, .refl _⟩, ⟨_, rfl, .refl _⟩, ⟨_, rfl, .refl _⟩, ⟨_, rfl, .refl _⟩, ⟨_, rfl, .refl _⟩, ⟨_, rfl, .refl _⟩, ⟨_, rfl, .refl _⟩, ⟨_, rfl, .refl _⟩, ⟨_, rfl, .refl _⟩, ⟨_, rfl, .refl _⟩, ⟨_, rfl, .refl _⟩, ⟨_, rfl, .refl _⟩, trivial⟩, by rw [hcol, hcol, ← hseen]; exact .refl _⟩ ?_
        intro f hf
        refine go hT 10000 rfl ?_
        conv => whnf
        refine run_split rfl (fun hfl => ?_) (fun hfl => ?_)
        · simp only [decide_eq_true_eq, Int.ofNat_lt] at hfl
          have hbf : belowB m.funcs.length [(f : Int)] = true := belowB_one.2 ⟨by omega, by omega⟩
          have hlen := (MModule.fn_ok hm hbf).code
          refine go hT 10000 rfl ?_
          conv => whnf
          refine ops_g rfl (g_funcs hT rfl rfl rfl hbf) ?_
          refine go hT 10000 rfl ?_
          conv => whnf
          refine ops_g rfl (g_len hT rfl rfl rfl rfl rfl rfl (List.length_map _)) ?_
          refine go hT 10000 rfl ?_
          conv => whnf
          have h71 := look71 (f : Int) seen
          by_cases hin : (f : Int) ∈ seen
          · rw [if_pos hin] at h71
            have hst : ∀ (l : List V) (u v : V), f < l.length → v.cells = [v] → v.isCell = true → storeV tab 25 v (0 + ((f : Nat) : Int).toNat * 1) (l.set f u) = some (l.set f v) := fun l u v h h1 h2 => by rw [Int.toNat_natCast, Nat.mul_one, Nat.zero_add, store_at rfl h1 h2 (by simpa using h), List.set_set]
            have hat : ∀ (l : List V) (v : V), f < l.length → (l.set f v)[0 + ((f : Nat) : Int).toNat * 1]? = some v := fun l v h => by rw [Int.toNat_natCast, Nat.mul_one, Nat.zero_add]; simp [h]
            have hr1 : rowP m y.pure seen (·.1) f = (List.range (m.fn (f : Int)).code.length).map (cellP y.pure (·.1) f) := by unfold rowP; rw [if_pos hin]
            have hr2 : rowP m y.pure seen (·.2) f = (List.range (m.fn (f : Int)).code.length).map (cellP y.pure (·.2) f) := by unfold rowP; rw [if_pos hin]
            refine run_lq (fun w : Nat × Tok × Tok => ([(1, .pin (modV m) 0), (2, .ptr b2 0), (4, .ptr b4 0), (6, .int .i64 m.threads[i]), (7, .ptr bx 0), (9, .map bs), (10, .ref b10 0 m.funcs.length m.funcs.length), (11, .ref b11 0 m.funcs.length m.funcs.length), (12, .int .i64 f), (21, .slice .no (m.threads.map intV)), (22, .int .i64 m.threads.length), (23, .int .i64 i), (75, .int .i64 m.funcs.length), (76, .int .i64 f), (85, .int .i64 (m.fn (f : Int)).code.length), (86, .int .i64 w.1)], .tl w.2.1 :: .tl w.2.2 :: .cells b10 ((colV m.funcs.length f (rowP m y.pure seen (·.1))).set f (.slice w.2.1 (((List.range w.1).map (cellP y.pure (·.1) f)).map intV))) 25 :: .cells b11 ((colV m.funcs.length f (rowP m y.pure seen (·.2))).set f (.slice w.2.2 (((List.range w.1).map (cellP y.pure (·.2) f)).map intV))) 25 :: .map bs (seen.map seenE) :: (fdS m bx ba bc y ++ R))) (fun w => w.1 ≤ (m.fn (f : Int)).code.length ∧ tokB 1 w.2.1 = true ∧ tokB 1 w.2.2 = true) (fun w => (m.fn (f : Int)).code.length - w.1) (0, .zero, .zero) ⟨Nat.zero_le _, rfl, rfl⟩ ⟨⟨⟨_, rfl, .refl _⟩, ⟨_, rfl, .refl _⟩, ⟨_, rfl, .refl _⟩, ⟨_, rfl, .refl _⟩, ⟨_, rfl, .refl _⟩, ⟨_, rfl, .refl _⟩, ⟨_, rfl, .refl _⟩, ⟨_, rfl, .refl _⟩, ⟨_, rfl, .refl _⟩, ⟨_, rfl, .refl _⟩, ⟨_, rfl, .refl _⟩, ⟨_, rfl, .refl _⟩, ⟨_, rfl, .refl _⟩, ⟨_, rfl, .refl _⟩, ⟨_, rfl, .refl _⟩, ⟨_, rfl, .refl _⟩, trivial⟩, .zero (.zero (by
              show Sub _ (.cells b10 ((colV m.funcs.length f (rowP m y.pure seen (·.1))).set f (.slice .zero [])) 25 :: .cells b11 ((colV m.funcs.length f (rowP m y.pure seen (·.2))).set f (.slice .zero [])) 25 :: _)
              rw [colV_set0 _ hfl, colV_set0 _ hfl]
              exact .refl _))⟩ ?_
            rintro w ⟨hw, ht1, ht2⟩
            refine go hT 10000 rfl ?_
            conv => whnf
            refine run_split rfl (fun hj => ?_) (fun hj => ?_)
            · simp only [decide_eq_true_eq, Int.ofNat_lt] at hj
              have h67 := look67 ((f : Int), (w.1 : Int)) y.at_
              refine go hT 10000 rfl ?_
              conv => whnf
              refine ops_g rfl (g_lookup hT rfl rfl rfl rfl rfl rfl (.there (.there (.there (.there .here)))) h71) ?_
              refine go hT 10000 rfl ?_
              conv => whnf
              refine ops_g rfl (g_load hT rfl rfl (.there (.there (.there (.there (.there .here))))) rfl) ?_
              refine go hT 10000 rfl ?_
              conv => whnf
              cases hf67 : findM y.at_ ((f : Int), (w.1 : Int)) with
              | none =>
                rw [hf67] at h67
                refine ops_g rfl (g_lookup hT rfl rfl rfl rfl rfl rfl (.there (.there (.there (.there (.there (.there .here)))))) h67) ?_
                refine go hT 10000 rfl ?_
                conv => whnf
                refine ops_s rfl (s_alloc hT rfl rfl rfl fun b14 => ?_)
                refine go hT 10000 rfl ?_
                conv => whnf
                refine ops_s rfl (s_store (cs' := pairV (0, 0)) hT rfl rfl rfl .here rfl ?_)
                refine go hT 10000 rfl ?_
                conv => whnf
                refine ops_s rfl (s_store (cs' := pairV (-1, -1)) hT rfl rfl rfl .here rfl ?_)
                refine ops_freezeH (t := 14) rfl ?_
                refine go hT 10000 rfl ?_
                conv => whnf
                intro id
                refine run_drw hT rfl rfl ?_ id
                repeat' (first
                  | (refine god hT 2 rfl ?_; conv => whnf)
                  | refine vd_fin rfl ?_
                  | refine q_g rfl (fun S' => (g_len hT rfl rfl rfl rfl rfl rfl (List.length_map _)).qs) ?_
                  | refine q_guard rfl rfl rfl rfl (fun h => ?_) (fun h => ?_)
                  | refine q_g rfl (fun S' => (g_indexRef hT rfl rfl rfl rfl rfl (by omega) (by omega)).qs) ?_
                  | refine q_load hT rfl rfl rfl (.there (.there .here)) (part_at (v := .slice w.2.1 (((List.range w.1).map (cellP y.pure (·.1) f)).map intV)) rfl (hat _ _ (by rw [colV_len]; exact hfl))) ?_
                  | refine q_load hT rfl rfl rfl (.there (.there (.there .here))) (part_at (v := .slice w.2.2 (((List.range w.1).map (cellP y.pure (·.2) f)).map intV)) rfl (hat _ _ (by rw [colV_len]; exact hfl))) ?_
                  | refine q_g rfl (fun S' => s_listF (rows := [intV ((-1, -1) : P2).1]) hT rfl rfl rfl rfl rfl rfl rfl rfl ⟨rfl, rfl⟩) ?_
                  | refine q_g rfl (fun S' => s_listF (rows := [intV ((-1, -1) : P2).2]) hT rfl rfl rfl rfl rfl rfl rfl rfl ⟨rfl, rfl⟩) ?_)
                refine vd_eff1 rfl (eff rfl rfl (s_append (news := [intV ((-1, -1) : P2).1]) hT rfl rfl rfl rfl rfl rfl rfl rfl rfl rfl ht1 .here (intV_len _) (intV_len [((-1, -1) : P2).1]) (intV_cell [((-1, -1) : P2).1]) (by simp only [List.length_cons, List.length_nil, List.length_map, List.length_range]; omega) fun t1 ht1' => And.intro (And.intro ⟨_, _, _, (.there (.there (.there .here))), (part_at (v := .slice w.2.2 (((List.range w.1).map (cellP y.pure (·.2) f)).map intV)) rfl (hat _ _ (by rw [colV_len]; exact hfl)))⟩ trivial) ?_))
                refine god hT 2 rfl ?_
                conv => whnf
                refine vd_eff1 rfl (eff rfl rfl (s_append (news := [intV ((-1, -1) : P2).2]) hT rfl rfl rfl rfl rfl rfl rfl rfl rfl rfl ht2 (.there .here) (intV_len _) (intV_len [((-1, -1) : P2).2]) (intV_cell [((-1, -1) : P2).2]) (by simp only [List.length_cons, List.length_nil, List.length_map, List.length_range]; omega) fun t2 ht2' => And.intro trivial ?_))
                refine god hT 2 rfl ?_
                conv => whnf
                refine q_g rfl (fun S' => (g_indexRef hT rfl rfl rfl rfl rfl (by omega) (by omega)).qs) ?_
                refine god hT 2 rfl ?_
                conv => whnf
                refine vd_eff1 rfl (eff rfl rfl (s_store (cs' := (colV m.funcs.length f (rowP m y.pure seen (·.1))).set f (.slice t1 (((List.range w.1).map (cellP y.pure (·.1) f)).map intV ++ [intV ((-1, -1) : P2).1]))) hT rfl rfl rfl (.there (.there .here)) (hst _ _ _ (by rw [colV_len]; exact hfl) rfl rfl) (And.intro trivial ?_)))
                refine god hT 2 rfl ?_
                conv => whnf
                refine q_g rfl (fun S' => (g_indexRef hT rfl rfl rfl rfl rfl (by omega) (by omega)).qs) ?_
                refine god hT 2 rfl ?_
                conv => whnf
                refine vd_eff1 rfl (eff rfl rfl (s_store (cs' := (colV m.funcs.length f (rowP m y.pure seen (·.2))).set f (.slice t2 (((List.range w.1).map (cellP y.pure (·.2) f)).map intV ++ [intV ((-1, -1) : P2).2]))) hT rfl rfl rfl (.there (.there (.there .here))) (hst _ _ _ (by rw [colV_len]; exact hfl) rfl rfl) (And.intro trivial ?_)))
                refine god hT 2 rfl ?_
                conv => whnf
                refine vd_fin rfl ?_
                refine go hT 10000 rfl ?_
                conv => whnf
                refine ops_g rfl (g_add rfl rfl rfl (by omega)) ?_
                refine go hT 10000 rfl ?_
                conv => whnf
                have e1 : cellP y.pure (·.1) f w.1 = ((-1, -1) : P2).1 := by unfold cellP; rw [show findM y.pure.at_ _ = _ from hf67]
                have e2 : cellP y.pure (·.2) f w.1 = ((-1, -1) : P2).2 := by unfold cellP; rw [show findM y.pure.at_ _ = _ from hf67]
                exact ⟨(w.1 + 1, t1, t2), ⟨hj, ht1', ht2'⟩, by dsimp only; omega, ⟨⟨_, rfl, .refl _⟩, ⟨_, rfl, .refl _⟩, ⟨_, rfl, .refl _⟩, ⟨_, rfl, .refl _⟩, ⟨_, rfl, .refl _⟩, ⟨_, rfl, .refl _⟩, ⟨_, rfl, .refl _⟩, ⟨_, rfl, .refl _⟩, ⟨_, rfl, .refl _⟩, ⟨_, rfl, .refl _⟩, ⟨_, rfl, .refl _⟩, ⟨_, rfl, .refl _⟩, ⟨_, rfl, .refl _⟩, ⟨_, rfl, .refl _⟩, ⟨_, rfl, .refl _⟩, ⟨_, rfl, .refl _⟩, trivial⟩, by
                  dsimp only
                  simp only [List.range_succ, List.map_append, List.map_cons, List.map_nil, e1, e2]
                  exact .refl _⟩
              | some e =>
                rw [hf67] at h67
                refine ops_g rfl (g_lookup hT rfl rfl rfl rfl rfl rfl (.there (.there (.there (.there (.there (.there .here)))))) h67) ?_
                refine go hT 10000 rfl ?_
                conv => whnf
                refine ops_s rfl (s_alloc hT rfl rfl rfl fun b14 => ?_)
                refine go hT 10000 rfl ?_
                conv => whnf
                refine ops_s rfl (s_store (cs' := pairV e) hT rfl rfl rfl .here rfl ?_)
                refine ops_freezeH (t := 14) rfl ?_
                refine go hT 10000 rfl ?_
                conv => whnf
                intro id
                refine run_drw hT rfl rfl ?_ id
                repeat' (first
                  | (refine god hT 2 rfl ?_; conv => whnf)
                  | refine vd_fin rfl ?_
                  | refine q_g rfl (fun S' => (g_len hT rfl rfl rfl rfl rfl rfl (List.length_map _)).qs) ?_
                  | refine q_guard rfl rfl rfl rfl (fun h => ?_) (fun h => ?_)
                  | refine q_g rfl (fun S' => (g_indexRef hT rfl rfl rfl rfl rfl (by omega) (by omega)).qs) ?_
                  | refine q_load hT rfl rfl rfl (.there (.there .here)) (part_at (v := .slice w.2.1 (((List.range w.1).map (cellP y.pure (·.1) f)).map intV)) rfl (hat _ _ (by rw [colV_len]; exact hfl))) ?_
                  | refine q_load hT rfl rfl rfl (.there (.there (.there .here))) (part_at (v := .slice w.2.2 (((List.range w.1).map (cellP y.pure (·.2) f)).map intV)) rfl (hat _ _ (by rw [colV_len]; exact hfl))) ?_
                  | refine q_g rfl (fun S' => s_listF (rows := [intV e.1]) hT rfl rfl rfl rfl rfl rfl rfl rfl ⟨rfl, rfl⟩) ?_
                  | refine q_g rfl (fun S' => s_listF (rows := [intV e.2]) hT rfl rfl rfl rfl rfl rfl rfl rfl ⟨rfl, rfl⟩) ?_)
                refine vd_eff1 rfl (eff rfl rfl (s_append (news := [intV e.1]) hT rfl rfl rfl rfl rfl rfl rfl rfl rfl rfl ht1 .here (intV_len _) (intV_len [e.1]) (intV_cell [e.1]) (by simp only [List.length_cons, List.length_nil, List.length_map, List.length_range]; omega) fun t1 ht1' => And.intro (And.intro ⟨_, _, _, (.there (.there (.there .here))), (part_at (v := .slice w.2.2 (((List.range w.1).map (cellP y.pure (·.2) f)).map intV)) rfl (hat _ _ (by rw [colV_len]; exact hfl)))⟩ trivial) ?_))
                refine god hT 2 rfl ?_
                conv => whnf
                refine vd_eff1 rfl (eff rfl rfl (s_append (news := [intV e.2]) hT rfl rfl rfl rfl rfl rfl rfl rfl rfl rfl ht2 (.there .here) (intV_len _) (intV_len [e.2]) (intV_cell [e.2]) (by simp only [List.length_cons, List.length_nil, List.length_map, List.length_range]; omega) fun t2 ht2' => And.intro trivial ?_))
                refine god hT 2 rfl ?_
                conv => whnf
                refine q_g rfl (fun S' => (g_indexRef hT rfl rfl rfl rfl rfl (by omega) (by omega)).qs) ?_
                refine god hT 2 rfl ?_
                conv => whnf
                refine vd_eff1 rfl (eff rfl rfl (s_store (cs' := (colV m.funcs.length f (rowP m y.pure seen (·.1))).set f (.slice t1 (((List.range w.1).map (cellP y.pure (·.1) f)).map intV ++ [intV e.1]))) hT rfl rfl rfl (.there (.there .here)) (hst _ _ _ (by rw [colV_len]; exact hfl) rfl rfl) (And.intro trivial ?_)))
                refine god hT 2 rfl ?_
                conv => whnf
                refine q_g rfl (fun S' => (g_indexRef hT rfl rfl rfl rfl rfl (by omega) (by omega)).qs) ?_
                refine god hT 2 rfl ?_
                conv => whnf
                refine vd_eff1 rfl (eff rfl rfl (s_store (cs' := (colV m.funcs.length f (rowP m y.pure seen (·.2))).set f (.slice t2 (((List.range w.1).map (cellP y.pure (·.2) f)).map intV ++ [intV e.2]))) hT rfl rfl rfl (.there (.there (.there .here))) (hst _ _ _ (by rw [colV_len]; exact hfl) rfl rfl) (And.intro trivial ?_)))
                refine god hT 2 rfl ?_
                conv => whnf
                refine vd_fin rfl ?_
                refine go hT 10000 rfl ?_
                conv => whnf
                refine ops_g rfl (g_add rfl rfl rfl (by omega)) ?_
                refine go hT 10000 rfl ?_
                conv => whnf
                have e1 : cellP y.pure (·.1) f w.1 = e.1 := by unfold cellP; rw [show findM y.pure.at_ _ = _ from hf67]
                have e2 : cellP y.pure (·.2) f w.1 = e.2 := by unfold cellP; rw [show findM y.pure.at_ _ = _ from hf67]
                exact ⟨(w.1 + 1, t1, t2), ⟨hj, ht1', ht2'⟩, by dsimp only; omega, ⟨⟨_, rfl, .refl _⟩, ⟨_, rfl, .refl _⟩, ⟨_, rfl, .refl _⟩, ⟨_, rfl, .refl _⟩, ⟨_, rfl, .refl _⟩, ⟨_, rfl, .refl _⟩, ⟨_, rfl, .refl _⟩, ⟨_, rfl, .refl _⟩, ⟨_, rfl, .refl _⟩, ⟨_, rfl, .refl _⟩, ⟨_, rfl, .refl _⟩, ⟨_, rfl, .refl _⟩, ⟨_, rfl, .refl _⟩, ⟨_, rfl, .refl _⟩, ⟨_, rfl, .refl _⟩, ⟨_, rfl, .refl _⟩, trivial⟩, by
                  dsimp only
                  simp only [List.range_succ, List.map_append, List.map_cons, List.map_nil, e1, e2]
                  exact .refl _⟩
            · simp only [decide_eq_false_iff_not, Int.ofNat_lt] at hj
              have hje : w.1 = (m.fn (f : Int)).code.length := by omega
              refine go hT 10000 rfl ?_
              conv => whnf
              refine ops_g rfl (g_add rfl rfl rfl (by omega)) ?_
              refine go hT 10000 rfl ?_
              conv => whnf
              refine ⟨f + 1, hfl, by omega, ⟨⟨_, rfl, .refl _⟩, ⟨_, rfl, .refl _⟩, ⟨_, rfl, .refl _⟩, ⟨_, rfl, .refl _⟩, ⟨_, rfl, .refl _⟩, ⟨_, rfl, .refl _⟩, ⟨_, rfl, .refl _⟩, ⟨_, rfl, .refl _⟩, ⟨_, rfl, .refl _⟩, ⟨_, rfl, .refl _⟩, ⟨_, rfl, .refl _⟩, ⟨_, rfl, .refl _⟩, ⟨_, rfl, .refl _⟩, trivial⟩, ?_⟩
              rw [hje, ← hr1, ← hr2]
              exact .drop (.drop (.cells (colV_fill _ hfl _) (.cells (colV_fill _ hfl _) (.refl _))))
          · rw [if_neg hin] at h71
            have hr1 : rowP m y.pure seen (·.1) f = [] := by unfold rowP; rw [if_neg hin]
            have hr2 : rowP m y.pure seen (·.2) f = [] := by unfold rowP; rw [if_neg hin]
            refine run_lq (fun j : Nat => ([(1, .pin (modV m) 0), (2, .ptr b2 0), (4, .ptr b4 0), (6, .int .i64 m.threads[i]), (7, .ptr bx 0), (9, .map bs), (10, .ref b10 0 m.funcs.length m.funcs.length), (11, .ref b11 0 m.funcs.length m.funcs.length), (12, .int .i64 f), (21, .slice .no (m.threads.map intV)), (22, .int .i64 m.threads.length), (23, .int .i64 i), (75, .int .i64 m.funcs.length), (76, .int .i64 f), (85, .int .i64 (m.fn (f : Int)).code.length), (86, .int .i64 j)], .cells b10 (colV m.funcs.length f (rowP m y.pure seen (·.1))) 25 :: .cells b11 (colV m.funcs.length f (rowP m y.pure seen (·.2))) 25 :: .map bs (seen.map seenE) :: (fdS m bx ba bc y ++ R))) (fun j => j = 0) (fun j => j) 0 rfl ⟨⟨⟨_, rfl, .refl _⟩, ⟨_, rfl, .refl _⟩, ⟨_, rfl, .refl _⟩, ⟨_, rfl, .refl _⟩, ⟨_, rfl, .refl _⟩, ⟨_, rfl, .refl _⟩, ⟨_, rfl, .refl _⟩, ⟨_, rfl, .refl _⟩, ⟨_, rfl, .refl _⟩, ⟨_, rfl, .refl _⟩, ⟨_, rfl, .refl _⟩, ⟨_, rfl, .refl _⟩, ⟨_, rfl, .refl _⟩, ⟨_, rfl, .refl _⟩, ⟨_, rfl, .refl _⟩, ⟨_, rfl, .refl _⟩, trivial⟩, .refl _⟩ ?_
            rintro j rfl
            refine go hT 10000 rfl ?_
            conv => whnf
            refine run_split rfl (fun hj => ?_) (fun hj => ?_)
            · refine go hT 10000 rfl ?_
              conv => whnf
              refine ops_g rfl (g_lookup hT rfl rfl rfl rfl rfl rfl (.there (.there .here)) h71) ?_
              refine go hT 10000 rfl ?_
              conv => whnf
              refine ops_g rfl (g_add rfl rfl rfl (by omega)) ?_
              refine go hT 10000 rfl ?_
              conv => whnf
              exact ⟨f + 1, hfl, by omega, ⟨⟨_, rfl, .refl _⟩, ⟨_, rfl, .refl _⟩, ⟨_, rfl, .refl _⟩, ⟨_, rfl, .refl _⟩, ⟨_, rfl, .refl _⟩, ⟨_, rfl, .refl _⟩, ⟨_, rfl, .refl _⟩, ⟨_, rfl, .refl _⟩, ⟨_, rfl, .refl _⟩, ⟨_, rfl, .refl _⟩, ⟨_, rfl, .refl _⟩, ⟨_, rfl, .refl _⟩, ⟨_, rfl, .refl _⟩, trivial⟩, .cells (colV_skip _ hfl hr1) (.cells (colV_skip _ hfl hr2) (.refl _))⟩
            · simp only [decide_eq_false_iff_not] at hj
              omega
        · simp only [decide_eq_false_iff_not, Int.ofNat_lt] at hfl
          have hfn : f = m.funcs.length := by omega
          subst hfn
          refine run_freezeS (t := 10) (rows := (tableP m y.pure seen (·.1)).map oneRow) (sz := 1) rfl .here (colV_all _).symm (rows_len (g := oneRow) (n := 1) (fun _ => rfl) _) (by simp [tableP]) (Nat.le_refl _) ?_
          refine run_freezeS (t := 11) (rows := (tableP m y.pure seen (·.2)).map oneRow) (sz := 1) rfl (.there .here) (colV_all _).symm (rows_len (g := oneRow) (n := 1) (fun _ => rfl) _) (by simp [tableP]) (Nat.le_refl _) ?_
          refine run_sub (S' := R) (.drop (.drop (.drop (Sub.dropL _ _)))) ?_
          subst hR
          refine go hT 10000 rfl ?_
          conv => whnf
          intro id
          refine run_drw hT rfl rfl ?_ id
          repeat' (first
            | (refine god hT 2 rfl ?_; conv => whnf)
            | refine vd_fin rfl ?_
            | refine q_g rfl (fun S' => (g_len hT rfl rfl rfl rfl rfl rfl (List.length_map _)).qs) ?_
            | refine q_guard rfl rfl rfl rfl (fun h => ?_) (fun h => ?_)
            | refine q_load hT rfl rfl rfl .here rfl ?_
            | refine q_g rfl (fun S' => s_listF (rows := [tabV (tableP m y.pure seen (·.1))]) hT rfl rfl rfl rfl rfl rfl rfl rfl ⟨rfl, rfl⟩) ?_
            | refine q_g rfl (fun S' => s_listF (rows := [tabV (tableP m y.pure seen (·.2))]) hT rfl rfl rfl rfl rfl rfl rfl rfl ⟨rfl, rfl⟩) ?_)
          have hl12 := hts.lens
          rw [List.length_take] at hl12
          have hl1 : must.length < 2000000 := by omega
          have hl2 : may.length < 2000000 := by omega
          refine vd_eff1 rfl (eff rfl rfl (s_append (news := [tabV (tableP m y.pure seen (·.1))]) hT rfl rfl rfl rfl rfl rfl rfl rfl rfl rfl htm (.there (.there .here)) (rows_len (g := tabV) (n := 1) (fun _ => rfl) _) (rows_len (g := tabV) (n := 1) (fun _ => rfl) [tableP m y.pure seen (·.1)]) (rows_cell (g := tabV) (fun _ => rfl) [tableP m y.pure seen (·.1)]) (by simp only [List.length_cons, List.length_nil, List.length_map]; omega) fun u1 hu1 => And.intro (And.intro ⟨_, _, _, .here, rfl⟩ trivial) ?_))
          refine god hT 2 rfl ?_
          conv => whnf
          refine vd_eff1 rfl (eff rfl rfl (s_append (news := [tabV (tableP m y.pure seen (·.2))]) hT rfl rfl rfl rfl rfl rfl rfl rfl rfl rfl hta (.there (.there (.there .here))) (rows_len (g := tabV) (n := 1) (fun _ => rfl) _) (rows_len (g := tabV) (n := 1) (fun _ => rfl) [tableP m y.pure seen (·.2)]) (rows_cell (g := tabV) (fun _ => rfl) [tableP m y.pure seen (·.2)]) (by simp only [List.length_cons, List.length_nil, List.length_map]; omega) fun u2 hu2 => And.intro trivial ?_))
          refine god hT 2 rfl ?_
          conv => whnf
          refine vd_eff1 rfl (eff rfl rfl (s_store (cs' := [.slice u1 (must.map tabV ++ [tabV (tableP m y.pure seen (·.1))]), .slice ta (may.map tabV)]) hT rfl rfl rfl .here rfl (And.intro trivial ?_)))
          refine god hT 2 rfl ?_
          conv => whnf
          refine vd_eff1 rfl (eff rfl rfl (s_store (cs' := [.slice u1 (must.map tabV ++ [tabV (tableP m y.pure seen (·.1))]), .slice u2 (may.map tabV ++ [tabV (tableP m y.pure seen (·.2))])]) hT rfl rfl rfl .here rfl (And.intro trivial ?_)))
          refine god hT 2 rfl ?_
          conv => whnf
          refine vd_fin rfl ?_
          refine go hT 10000 rfl ?_
          conv => whnf
          refine ops_g rfl (g_add rfl rfl rfl (by omega)) ?_
          refine go hT 10000 rfl ?_
          conv => whnf
          refine ⟨(i + 1, must ++ [tableP m y.pure seen (·.1)], may ++ [tableP m y.pure seen (·.2)], u1, u2), ⟨hlt, ?_, hu1, hu2⟩, by dsimp only; omega, ⟨⟨_, rfl, .refl _⟩, ⟨_, rfl, .refl _⟩, ⟨_, rfl, .refl _⟩, ⟨_, rfl, .refl _⟩, ⟨_, rfl, .refl _⟩, ⟨_, rfl, .refl _⟩, trivial⟩, by dsimp only; rw [List.map_append, List.map_append]; exact .refl _⟩
          dsimp only
          rw [List.take_succ_eq_append_getElem hlt]
          exact hts.snoc ⟨y.pure, hdone, by rw [hseen], by rw [hseen]⟩
  · simp only [decide_eq_false_iff_not, Int.ofNat_lt] at hlt
    have e : m.threads.take i = m.threads := List.take_of_length_le (by omega)
    rw [e] at hts
    refine run_sub (S' := [.cells b4 (heldV must may) 81, .cells b2 [.slice .zero [], .slice .zero []] 81]) (.cells (.cons (V.Le.slice _ _) (.cons (V.Le.slice _ _) .nil)) (.keep .nil)) ?_
    refine go hT 10000 rfl ?_
    conv => whnf
    refine ops_g rfl (g_load hT rfl rfl .here rfl) ?_
    refine go hT 10000 rfl ?_
    conv => whnf
    refine ops_s rfl (s_store (cs' := heldV must may) hT rfl rfl rfl (.there .here) rfl ?_)
    refine go hT 10000 rfl ?_
    conv => whnf
    refine ret_of (.cell rfl (.there .here) rfl (.tmp rfl .nil)) ?_
    rw [if_pos hr]
    exact ⟨must, may, hts, rfl⟩
end
end Go.Vw
namespace Go.Vw
open Go.RowKit Go.Am Go.Proofs
theorem op_facts {m : MModule} (h : rightModB m = true) : ∀ p, valid m p → OpFacts m m.locks.length p ((m.fn p.1).op p.2) := fun p ⟨h1, h2, h3⟩ => by
  have hcall := calls_ok h
  simp only [rightModB, Bool.and_eq_true, List.all_eq_true] at h
  obtain ⟨hfr, hr⟩ := h
  obtain ⟨hm, _⟩ := frame_ok hfr
  have hb := belowB_one.1 h1
  have hi : p.1.toNat < m.funcs.length := by omega
  have hmem : m.fn p.1 ∈ m.funcs := by
    unfold MModule.fn
    rw [List.getElem?_eq_getElem hi]
    exact List.getElem_mem hi
  have hn : p.2.toNat < (m.fn p.1).code.length := by omega
  have hop : (m.fn p.1).op p.2 ∈ (m.fn p.1).code := by
    unfold MFunc.op
    rw [List.getElem?_eq_getElem hn]
    exact List.getElem_mem hn
  have ho := hr _ hmem _ hop
  generalize (m.fn p.1).op p.2 = o at ho hop
  simp only [rightB, Bool.and_eq_true] at ho
  obtain ⟨⟨⟨⟨hf, _⟩, _⟩, hnx⟩, hel⟩ := ho
  refine ⟨fun hk => ?_, fun hk => ?_, fun hk => ?_, fun hk => ?_⟩
  · rw [if_neg hk] at hnx
    have := belowB_one.1 hnx
    exact ⟨h1, this.1, this.2⟩
  · rw [if_pos hk] at hel
    have := belowB_one.1 hel
    exact ⟨h1, this.1, this.2⟩
  · have hc := hcall _ hmem _ hop hk
    have := (MModule.fn_ok hm hc).code.1
    exact ⟨hc, hc, by show (0 : Int) ≤ 0; omega, by show (0 : Int) < _; dsimp only; omega⟩
  · have : belowB m.locks.length [o.a] = true := by
      rcases hk with hk | hk
      · simp only [fieldsB, othersB, hk] at hf
        simp at hf
        exact hf.1
      · simp only [fieldsB, othersB, hk] at hf
        simp at hf
        exact hf.1
    exact belowB_one.1 this
end Go.Vw
namespace Go.Vw
open Go.RowKit Go.Am Go.Proofs
/-- A call of which is known only that it leaves all that was as it was. -/
theorem vc_below [Drw] (hd : ¬ Drw.on) {P : Program} {f : FuncId} {S : Hp} {b : Bool} (h : ∀ F w, Sat F w S → Calls P f #[] w fun e w' => e = .returned (.bool b) ∧ Below w.heap.size w w') : VC P f [] S fun v S' => v = .ob b ∧ S' = S := fun F w us s a => by
  have hus : us = #[] := by
    have := a.length
    simp at this
    exact Array.eq_empty_of_size_eq_zero this.symm
  subst hus
  refine (h F w s).mono ?_
  rintro e w' ⟨rfl, hb⟩
  obtain ⟨b1, b2, b3, b4, b5⟩ := hb
  have g : Grow F w F w' := ⟨fun _ _ h => h, fun b k hk => by
    unfold World.cell?
    rw [b5 b (s.fz_lt hk)]⟩
  refine ⟨.ob b, .bool b, F, S, rfl, .ob b, ⟨fun c k hk => ?_, s.nodup, fun x hx => (s.ok x hx).mono g fun c hc => ⟨b5 c ((s.ok x hx).lt hc), fun _ h => h⟩⟩, ⟨g, b1, b2, b3, b4, fun c hc _ => ⟨b5 c hc, fun _ h => h⟩, fun _ h => .inl h, fun h => absurd h hd⟩, rfl, rfl⟩
  obtain ⟨v, e⟩ := s.fz c k hk
  exact ⟨v, (g.cell c k hk).trans e⟩
end Go.Vw
namespace Go.Vw
open Go.RowKit Go.Am Go.Proofs
/-! ### what must be held may be held -/
theorem andI_zero (x : Int) : andI x 0 = 0 := by
  unfold andI
  rw [show BitVec.ofInt IntKind.i64.bits (0 : Int) = 0#_ from rfl, BitVec.and_zero]
  rfl
def Nil0 (q : P2) (x : Fp) : Prop := ∃ l, findM x.at_ q = some l ∧ l.1 = 0
theorem nil_come {q : P2} {x : Fp} (h : Nil0 q x) (p l : P2) : Nil0 q (comeP x p l) := by
  unfold comeP
  split
  · exact h
  · obtain ⟨o, ho, h0⟩ := h
    unfold Nil0
    dsimp only
    rw [find_put]
    split
    · next e =>
      subst e
      refine ⟨_, rfl, ?_⟩
      unfold meet
      rw [ho]
      dsimp only
      rw [h0]; exact andI_zero _
    · exact ⟨o, ho, h0⟩
theorem nil_back {q : P2} {x : Fp} (h : Nil0 q x) (a : Int) (b : P2) : Nil0 q (addBack x a b) := by
  unfold addBack
  split <;> exact h
theorem nil_ret {q : P2} {a : Int} {b : P2} : ∀ (c : List MOp) (i : Nat) {x : Fp}, Nil0 q x → Nil0 q (retLoop x a b i c)
  | [], _, _, h => h
  | o :: c, i, x, h => by
    unfold retLoop
    refine nil_ret c (i + 1) ?_
    split
    · split
      · exact nil_come h _ _
      · exact h
    · exact h
theorem nil_fold {q l : P2} : ∀ (ps : List P2) {x : Fp}, Nil0 q x → Nil0 q (ps.foldl (fun x b => comeP x b l) x)
  | [], _, h => h
  | _ :: ps, _, h => nil_fold ps (nil_come h _ _)
theorem nil_leave {m : MModule} {q : P2} {x : Fp} (h : Nil0 q x) (p : P2) : Nil0 q (leaveP m x p) := by
  unfold leaveP
  dsimp only
  split
  · exact nil_fold _ h
  · split
    · exact nil_ret _ _ (nil_come (nil_back h _ _) _ _)
    · refine nil_come ?_ _ _
      split
      · exact nil_come h _ _
      · exact h
theorem nil_done {m : MModule} {q : P2} {x y : Fp} (h : Done m x y) : Nil0 q x → Nil0 q y := by
  induction h with
  | stop _ => exact id
  | @step x y p r h _ ih => exact fun k => ih (nil_leave (x := { x with row := r }) k p)
theorem nil_start (f : Int) : Nil0 (f, 0) (startP f) := by
  unfold startP comeP
  rw [if_neg (by simp [findM])]
  refine ⟨meet [] (f, 0) (0, 0), ?_, rfl⟩
  dsimp only
  rw [find_put, if_pos rfl]
theorem seen_first (m : MModule) (f : Int) : f ∈ seenP m f := by
  unfold seenP
  unfold calledP
  rw [if_neg (by simp)]
  have key : ∀ (c : List MOp) (s : List Int), f ∈ s → f ∈ c.foldl (fun s o => if o.kind = 22 then calledP m m.funcs.length o.a s else s) s := fun c => by
    induction c with
    | nil => intro s h; exact h
    | cons o c ih =>
      intro s h
      refine ih _ ?_
      dsimp only
      split
      · exact called_sub m _ o.a s f h
      · exact h
  exact key _ _ (by simp)
def allI (L : Nat) : Int := bitI L - 1
def CellOk (L : Nat) (u v : Int) : Prop := (u = -1 ∧ v = -1) ∨ (0 ≤ u ∧ 0 ≤ v ∧ andI u v = u ∧ andI v (allI L) = v)
theorem allI_nat {L : Nat} (hL : L ≤ 8) : allI L = ((2 ^ L - 1 : Nat) : Int) := by
  have : L = 0 ∨ L = 1 ∨ L = 2 ∨ L = 3 ∨ L = 4 ∨ L = 5 ∨ L = 6 ∨ L = 7 ∨ L = 8 := by omega
  rcases this with rfl | rfl | rfl | rfl | rfl | rfl | rfl | rfl | rfl <;> rfl
theorem LockOk.cell {L : Nat} (hL : L ≤ 8) {l : P2} (h : LockOk L l) : CellOk L l.1 l.2 := by
  obtain ⟨u, v, rfl, a1, a2⟩ := h.ex
  have hv : v < 256 := lt_of_bits fun i hi => by have := a2 i hi; omega
  have hu : u < 256 := lt_of_bits fun i hi => by have := a2 i (a1 i hi); omega
  have hvL : v < 2 ^ L := Nat.lt_pow_two_of_testBit (n := L) v fun i hi => by
    cases hb : v.testBit i
    · rfl
    · have := a2 i hb; omega
  have h1 : u &&& v = u := Nat.eq_of_testBit_eq fun i => by
    rw [Nat.testBit_and]
    cases hb : u.testBit i
    · rfl
    · rw [a1 i hb]; rfl
  have hp : 2 ^ L ≤ 2 ^ 8 := Nat.pow_le_pow_right (by omega) hL
  have h2 : v &&& (2 ^ L - 1) = v := by rw [Nat.and_two_pow_sub_one_eq_mod, Nat.mod_eq_of_lt hvL]
  refine .inr ⟨by dsimp only; omega, by dsimp only; omega, ?_, ?_⟩
  · dsimp only; rw [andI_nat hu hv, h1]
  · dsimp only; rw [allI_nat hL, andI_nat hv (by omega), h2]
structure ThreadOk (m : MModule) (f : Int) (a b : List (List Int)) : Prop where
  la : a.length = m.funcs.length
  lb : b.length = m.funcs.length
  short : ∀ (g : Nat) (h1 : g < a.length), a[g].length < 2000000
  row : ∀ (g : Nat) (h1 : g < a.length) (h2 : g < b.length), a[g].length = b[g].length
  cell : ∀ (g n : Nat) (h1 : g < a.length) (h2 : g < b.length) (h3 : n < a[g].length) (h4 : n < b[g].length), CellOk m.locks.length a[g][n] b[g][n]
  first : ∃ (h1 : f.toNat < a.length) (h2 : 0 < a[f.toNat].length), a[f.toNat][0] = 0
theorem cellP_some {y : Fp} {sel : P2 → Int} {f n : Nat} {l : P2} (h : findM y.at_ ((f : Int), (n : Int)) = some l) : cellP y sel f n = sel l := by unfold cellP; rw [h]
theorem cellP_none {y : Fp} {sel : P2 → Int} {f n : Nat} (h : findM y.at_ ((f : Int), (n : Int)) = none) : cellP y sel f n = -1 := by unfold cellP; rw [h]
theorem thread_facts {m : MModule} (hs : Small m) (hr : rightModB m = true) {f : Int} (hf : f ∈ m.threads) {a b : List (List Int)} (h : Thread m f a b) : ThreadOk m f a b := by
  obtain ⟨y, hd, rfl, rfl⟩ := h
  have hfr : frameB m = true := by
    simp only [rightModB, Bool.and_eq_true] at hr
    exact hr.1
  obtain ⟨hm, _⟩ := frame_ok hfr
  obtain ⟨hL, _⟩ := frame_facts hfr
  have hb := thread_ok hr hf
  have hb1 := belowB_one.1 hb
  have hv0 : valid m (f, 0) := ⟨hb, by show (0 : Int) ≤ 0; omega, by have := (MModule.fn_ok hm hb).code.1; show (0 : Int) < _; dsimp only; omega⟩
  have inv0 : Inv m m.locks.length (startP f) := by
    have e0 : Inv m m.locks.length ⟨[], [], []⟩ := ⟨fun p l h => (by cases h), fun p h => (by cases h), fun c h => (by cases h)⟩
    exact (inv_come hL e0 hv0 (l := (0, 0)) ⟨0, 0, rfl, fun i h => h, fun i h => by simp at h⟩).1
  have inv := inv_done hL (op_facts hr) hd inv0
  have len : ∀ sel, (tableP m y (seenP m f) sel).length = m.funcs.length := fun sel => by simp [tableP]
  have at_ : ∀ sel g (h : g < (tableP m y (seenP m f) sel).length), (tableP m y (seenP m f) sel)[g] = rowP m y (seenP m f) sel g := fun sel g h => by simp [tableP]
  refine ⟨len _, len _, fun g h1 => ?_, fun g h1 h2 => ?_, fun g n h1 h2 h3 h4 => ?_, ?_⟩
  · rw [at_]
    have hg : g < m.funcs.length := by rw [← len (·.1)]; exact h1
    have hc : (m.fn (g : Int)).code.length < 2000000 := by
      unfold MModule.fn
      rw [Int.toNat_natCast, List.getElem?_eq_getElem hg]
      exact hs.code _ (List.getElem_mem hg)
    unfold rowP
    split
    · rw [List.length_map, List.length_range]; exact hc
    · decide
  · rw [at_, at_]
    unfold rowP
    split <;> simp
  · have cc : ∀ sel (h1 : g < (tableP m y (seenP m f) sel).length) (h3 : n < (tableP m y (seenP m f) sel)[g].length), (tableP m y (seenP m f) sel)[g][n] = cellP y sel g n := fun sel h1 h3 => by
      have e := at_ sel g h1
      simp only [e] at h3 ⊢
      unfold rowP at h3 ⊢
      by_cases hin : (g : Int) ∈ seenP m f
      · simp only [if_pos hin, List.getElem_map, List.getElem_range]
      · simp only [if_neg hin, List.length_nil, Nat.not_lt_zero] at h3
    rw [cc _ h1 h3, cc _ h2 h4]
    cases hfm : findM y.at_ ((g : Int), (n : Int)) with
    | none => rw [cellP_none hfm, cellP_none hfm]; exact .inl ⟨rfl, rfl⟩
    | some l => rw [cellP_some hfm, cellP_some hfm]; exact (inv.at_ _ _ hfm).2.cell hL
  · obtain ⟨l, hl, h0⟩ := nil_done hd (nil_start f)
    have h1 : f.toNat < (tableP m y (seenP m f) (·.1)).length := by rw [len]; omega
    have e := at_ (·.1) f.toNat h1
    have hcast : ((f.toNat : Nat) : Int) = f := Int.toNat_of_nonneg hb1.1
    have er : rowP m y (seenP m f) (·.1) f.toNat = (List.range (m.fn f).code.length).map (cellP y (·.1) f.toNat) := by
      unfold rowP
      rw [hcast, if_pos (seen_first m f)]
    have hc := (MModule.fn_ok hm hb).code.1
    have hl0 : 0 < (tableP m y (seenP m f) (·.1))[f.toNat].length := by rw [e, er, List.length_map, List.length_range]; exact hc
    refine ⟨h1, hl0, ?_⟩
    simp only [e, er, List.getElem_map, List.getElem_range]
    have : findM y.at_ (((f.toNat : Nat) : Int), ((0 : Nat) : Int)) = some l := by rw [hcast]; exact hl
    rw [cellP_some this, h0]
theorem threads_at {m : MModule} : ∀ {fs us vs}, Threads m fs us vs → ∀ (i : Nat) (h1 : i < fs.length) (h2 : i < us.length) (h3 : i < vs.length), Thread m fs[i] us[i] vs[i]
  | _, _, _, .nil, _, h1, _, _ => by cases h1
  | _, _, _, .cons h k, 0, _, _, _ => h
  | _, _, _, .cons h k, i + 1, h1, h2, h3 => threads_at k i (by simpa using h1) (by simpa using h2) (by simpa using h3)
end Go.Vw
namespace Go.Vw
open Go.RowKit Go.Am Go.Proofs
/-! ### the module that is handed over -/
theorem cells3 : Tryz.prog.cellsOf 3 = 1 := by kernel_rfl
theorem cells9 : Tryz.prog.cellsOf 9 = 1 := by kernel_rfl
theorem cells123 : Tryz.prog.cellsOf 174 = 2 := by kernel_rfl
theorem cells85 : Tryz.prog.cellsOf 62 = 12 := by kernel_rfl
theorem cells52 : Tryz.prog.cellsOf 50 = 5 := by kernel_rfl
def SizedOk (B : Nat) (s : MSized) : Prop := s.name.size ≤ B
def OpOk (B : Nat) (o : MOp) : Prop := o.args.length ≤ B
def FuncOk (B : Nat) (f : MFunc) : Prop := f.name.size ≤ B ∧ f.code.length ≤ B ∧ ∀ o ∈ f.code, OpOk B o
structure ModOk (B : Nat) (m : MModule) : Prop where
  globals : m.globals.length ≤ B ∧ ∀ s ∈ m.globals, SizedOk B s
  structs : m.structs.length ≤ B ∧ ∀ s ∈ m.structs, SizedOk B s
  chans : m.chans.length ≤ B ∧ ∀ s ∈ m.chans, SizedOk B s
  locks : m.locks.length ≤ B ∧ ∀ s ∈ m.locks, s.size ≤ B
  inputs : m.inputs.length ≤ B ∧ ∀ s ∈ m.inputs, s.size ≤ B
  sinks : m.sinks.length ≤ B ∧ ∀ s ∈ m.sinks, s.size ≤ B
  hatches : m.hatches.length ≤ B ∧ ∀ s ∈ m.hatches, s.size ≤ B
  funcs : m.funcs.length ≤ B ∧ ∀ f ∈ m.funcs, FuncOk B f
  threads : m.threads.length ≤ B
theorem ModOk.small {B : Nat} (hB : B < 2000000) {m : MModule} (h : ModOk B m) : Small m :=
  ⟨Nat.lt_of_le_of_lt h.globals.1 hB, Nat.lt_of_le_of_lt h.structs.1 hB, Nat.lt_of_le_of_lt h.chans.1 hB, Nat.lt_of_le_of_lt h.locks.1 hB, Nat.lt_of_le_of_lt h.inputs.1 hB, Nat.lt_of_le_of_lt h.sinks.1 hB, Nat.lt_of_le_of_lt h.hatches.1 hB, Nat.lt_of_le_of_lt h.funcs.1 hB, Nat.lt_of_le_of_lt h.threads hB,
    fun f hf => Nat.lt_of_le_of_lt (h.funcs.2 f hf).2.1 hB, fun f hf o ho => Nat.lt_of_le_of_lt ((h.funcs.2 f hf).2.2 o ho) hB⟩
theorem ModOk.smallN {B : Nat} (hB : B < 2000000) {m : MModule} (h : ModOk B m) : SmallN m :=
  ⟨fun s hs => Nat.lt_of_le_of_lt (h.globals.2 s hs) hB, fun s hs => Nat.lt_of_le_of_lt (h.structs.2 s hs) hB, fun s hs => Nat.lt_of_le_of_lt (h.chans.2 s hs) hB, fun s hs => Nat.lt_of_le_of_lt (h.locks.2 s hs) hB, fun s hs => Nat.lt_of_le_of_lt (h.inputs.2 s hs) hB, fun s hs => Nat.lt_of_le_of_lt (h.sinks.2 s hs) hB, fun s hs => Nat.lt_of_le_of_lt (h.hatches.2 s hs) hB,
    fun f hf => Nat.lt_of_le_of_lt (h.funcs.2 f hf).1 hB⟩
section
variable {H : Type} {enc : TypeId × Value → H} {w : World} {K : DataW H → Nat} (hK : Bulk K) {B : Nat}
theorem rInt : Reads enc Tryz.prog w K B 3 intV (fun _ => True) := .int Tryz.underlying3
include hK
theorem rStr : Reads enc Tryz.prog w K B 9 strV (fun s => s.size ≤ B) := .str hK Tryz.underlying9
theorem rInts : Reads enc Tryz.prog w K B 25 (fun xs : List Int => [.slice .no (xs.map intV)]) (fun xs => xs.length ≤ B) :=
  (Reads.slice hK Tryz.underlying25 rInt (fun _ => cells3.symm) (by rw [cells3]; decide)).map id (fun _ => rfl) fun _ h => h.1
theorem rStrs : Reads enc Tryz.prog w K B 23 (fun xs : List ByteArray => [.slice .no (xs.map strV)]) (fun xs => xs.length ≤ B ∧ ∀ s ∈ xs, s.size ≤ B) :=
  Reads.slice hK Tryz.underlying23 (rStr hK) (fun _ => cells9.symm) (by rw [cells9]; decide)
theorem rSized : Reads enc Tryz.prog w K B 174 sizedV (SizedOk B) :=
  (Reads.struct hK Tryz.underlying174 (ts := [9, 3]) (by kernel_rfl) (by kernel_rfl) (.cons (rStr hK) (.cons rInt .nil))).map (fun p => ⟨p.1, p.2.1⟩) (fun _ => rfl) fun _ h => h.1
theorem rSizeds : Reads enc Tryz.prog w K B 22 (fun xs : List MSized => [.slice .no (xs.map sizedV)]) (fun xs => xs.length ≤ B ∧ ∀ s ∈ xs, SizedOk B s) :=
  Reads.slice hK Tryz.underlying22 (rSized hK) (fun _ => cells123.symm) (by rw [cells123]; decide)
theorem rOp : Reads enc Tryz.prog w K B 62 opV (OpOk B) :=
  (Reads.struct hK Tryz.underlying62 (ts := [3, 3, 3, 3, 3, 3, 3, 3, 25, 3, 3, 3]) (by kernel_rfl) (by kernel_rfl) (.cons rInt (.cons rInt (.cons rInt (.cons rInt (.cons rInt (.cons rInt (.cons rInt (.cons rInt (.cons (rInts hK) (.cons rInt (.cons rInt (.cons rInt .nil))))))))))))).map
    (fun p => ⟨p.1, p.2.1, p.2.2.1, p.2.2.2.1, p.2.2.2.2.1, p.2.2.2.2.2.1, p.2.2.2.2.2.2.1, p.2.2.2.2.2.2.2.1, p.2.2.2.2.2.2.2.2.1, p.2.2.2.2.2.2.2.2.2.1, p.2.2.2.2.2.2.2.2.2.2.1, p.2.2.2.2.2.2.2.2.2.2.2.1⟩) (fun _ => rfl) fun _ h => h.2.2.2.2.2.2.2.2.1
theorem rOps : Reads enc Tryz.prog w K B 48 (fun xs : List MOp => [.slice .no (xs.map opV)]) (fun xs => xs.length ≤ B ∧ ∀ o ∈ xs, OpOk B o) :=
  Reads.slice hK Tryz.underlying48 (rOp hK) (fun _ => cells85.symm) (by rw [cells85]; decide)
theorem rFunc : Reads enc Tryz.prog w K B 50 funcV (FuncOk B) :=
  (Reads.struct hK Tryz.underlying50 (ts := [9, 3, 3, 3, 48]) (by kernel_rfl) (by kernel_rfl) (.cons (rStr hK) (.cons rInt (.cons rInt (.cons rInt (.cons (rOps hK) .nil)))))).map
    (fun p => ⟨p.1, p.2.1, p.2.2.1, p.2.2.2.1, p.2.2.2.2.1⟩) (fun _ => rfl) fun _ h => ⟨h.1, h.2.2.2.2.1⟩
theorem rFuncs : Reads enc Tryz.prog w K B 24 (fun xs : List MFunc => [.slice .no (xs.map funcV)]) (fun xs => xs.length ≤ B ∧ ∀ f ∈ xs, FuncOk B f) :=
  Reads.slice hK Tryz.underlying24 (rFunc hK) (fun _ => cells52.symm) (by rw [cells52]; decide)
theorem rMod : Reads enc Tryz.prog w K B 27 modV (ModOk B) :=
  (Reads.struct hK Tryz.underlying27 (ts := [22, 22, 22, 23, 23, 23, 23, 24, 25]) (by kernel_rfl) (by kernel_rfl) (.cons (rSizeds hK) (.cons (rSizeds hK) (.cons (rSizeds hK) (.cons (rStrs hK) (.cons (rStrs hK) (.cons (rStrs hK) (.cons (rStrs hK) (.cons (rFuncs hK) (.cons (rInts hK) .nil)))))))))).map
    (fun p => ⟨p.1, p.2.1, p.2.2.1, p.2.2.2.1, p.2.2.2.2.1, p.2.2.2.2.2.1, p.2.2.2.2.2.2.1, p.2.2.2.2.2.2.2.1, p.2.2.2.2.2.2.2.2.1⟩) (fun _ => rfl)
    fun _ h => ⟨h.1, h.2.1, h.2.2.1, h.2.2.2.1, h.2.2.2.2.1, h.2.2.2.2.2.1, h.2.2.2.2.2.2.1, h.2.2.2.2.2.2.2.1, h.2.2.2.2.2.2.2.2.1⟩
end
end Go.Vw
namespace Go.Vw
open Go.RowKit Go.Am Go.Proofs
attribute [local irreducible] VOps VRun VNext VD VDn VDq Ret
section
variable [Drw] (hT : TabOk tab Tryz.prog)
include hT
end
end Go.Vw
namespace Go.Vw
open Go.RowKit Go.Am Go.Proofs
attribute [local irreducible] VOps VRun VNext VD VDn VDq Ret
theorem Thread.unique {m : MModule} {f : Int} {a b a' b' : List (List Int)} (h : Thread m f a b) (k : Thread m f a' b') : a = a' ∧ b = b' := by
  obtain ⟨y, hd, rfl, rfl⟩ := h
  obtain ⟨z, kd, rfl, rfl⟩ := k
  rw [hd.unique kd]
  exact ⟨rfl, rfl⟩
def FindR (m : MModule) (v : V) : Prop := ∃ must may e, v = .tup [.agg (heldV must may), .int .i64 e] ∧ ((rightModB m = true ∧ Threads m m.threads must may ∧ e = 0) ∨ (rightModB m = false ∧ must = [] ∧ may = [] ∧ e = 70))
section
variable [Drw] (hT : TabOk tab Tryz.prog)
include hT
theorem findR (m : MModule) (hs : Small m) : PureR Tryz.prog 82 [.agg (modV m)] (FindR m) := by
  refine (find hT m hs fun hr => op_facts hr).mono fun v _ hv => ?_
  by_cases hr : rightModB m = true
  · rw [if_pos hr] at hv
    obtain ⟨must, may, h1, h2⟩ := hv
    exact ⟨must, may, 0, h2, .inl ⟨hr, h1, rfl⟩⟩
  · rw [if_neg hr] at hv
    exact ⟨[], [], 70, hv, .inr ⟨by simpa using hr, rfl, rfl, rfl⟩⟩
end
end Go.Vw
